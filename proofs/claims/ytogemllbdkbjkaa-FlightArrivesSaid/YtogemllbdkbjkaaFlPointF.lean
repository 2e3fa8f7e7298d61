/- What Point computes. -/
import Derived.Test.YtogemllbdkbjkaaFlFlightF
import Derived.Test.YtogemllbdkbjkaaFlKeys
set_option linter.unusedVariables false
set_option linter.unusedSimpArgs false
namespace Go.Fl
open Go Go.Sl
def glook {κ β : Type} [DecidableEq κ] : List (κ × β) → κ → Option β
  | [], _ => none
  | (j, v) :: l, k => if j = k then some v else glook l k
def gset {κ β : Type} [DecidableEq κ] : List (κ × β) → κ → β → List (κ × β)
  | [], k, v => [(k, v)]
  | (j, u) :: l, k, v => if j = k then (k, v) :: l else (j, u) :: gset l k v
def mU {κ β : Type} (e : β → Value) (l : List (κ × β)) : List (κ × Value) := l.map fun x => (x.1, e x.2)
theorem alook_mU {κ β : Type} [DecidableEq κ] {e : β → Value} : ∀ (l : List (κ × β)) (k : κ), alook (mU e l) k = (glook l k).map e
  | [], _ => rfl
  | (j, v) :: l, k => by
    have ih := alook_mU (e := e) l k
    simp only [mU, List.map_cons, alook, glook] at ih ⊢
    split
    · rfl
    · exact ih
theorem aset_mU {κ β : Type} [DecidableEq κ] {e : β → Value} : ∀ (l : List (κ × β)) (k : κ) (u : β), aset (mU e l) k (e u) = mU e (gset l k u)
  | [], _, _ => rfl
  | (j, v) :: l, k, u => by
    have ih := aset_mU (e := e) l k u
    simp only [mU, List.map_cons, aset, gset] at ih ⊢
    split
    · rfl
    · rw [ih]; rfl
theorem gset_keys {κ β : Type} [DecidableEq κ] : ∀ (l : List (κ × β)) (k : κ) (u : β), (gset l k u).map (·.1) = if k ∈ l.map (·.1) then l.map (·.1) else l.map (·.1) ++ [k]
  | [], _, _ => by simp [gset]
  | (j, v) :: l, k, u => by
    have ih := gset_keys l k u
    simp only [gset]
    split
    · rename_i e; subst e; simp
    · rename_i e
      have e' : ¬ k = j := fun h => e h.symm
      simp only [List.map_cons, ih, List.mem_cons, e', false_or]
      split <;> simp
theorem gset_nodup {κ β : Type} [DecidableEq κ] {l : List (κ × β)} (h : (l.map (·.1)).Nodup) (k : κ) (u : β) : ((gset l k u).map (·.1)).Nodup := by
  rw [gset_keys]; split
  · exact h
  · rename_i hk
    rw [List.nodup_append]
    exact ⟨h, by simp, fun a ha b hb => by simp only [List.mem_singleton] at hb; subst hb; exact fun e => hk (e ▸ ha)⟩
abbrev SkM := List ((UInt16 × Bool) × UInt32)
abbrev skKey (p : Piece) : UInt16 × Bool := (p.c.stream, p.c.loose)
def skStep (inter : Bool) (l : SkM) (p : Piece) : SkM :=
  if p.c.loose && !inter then l else match glook l (skKey p) with
    | some mid => gset l (skKey p) (later mid p.c.mid)
    | none => gset l (skKey p) p.c.mid
def skAll (inter : Bool) (ps : List Piece) : SkM := ps.foldl (skStep inter) []
theorem skStep_nodup {inter : Bool} {l : SkM} (h : (l.map (·.1)).Nodup) (p : Piece) : ((skStep inter l p).map (·.1)).Nodup := by
  unfold skStep; split
  · exact h
  · split <;> exact gset_nodup h _ _
theorem skAll_nodup (inter : Bool) (ps : List Piece) : ((skAll inter ps).map (·.1)).Nodup := by
  have : ∀ (ps : List Piece) (l : SkM), (l.map (·.1)).Nodup → ((ps.foldl (skStep inter) l).map (·.1)).Nodup := fun ps => by
    induction ps with
    | nil => exact fun l h => h
    | cons p ps ih => exact fun l h => ih _ (skStep_nodup h p)
  exact this ps [] (by simp)
theorem gset_length {κ β : Type} [DecidableEq κ] (l : List (κ × β)) (k : κ) (u : β) : (gset l k u).length ≤ l.length + 1 := by
  have := congrArg List.length (gset_keys l k u)
  simp only [List.length_map] at this
  rw [this]; split <;> simp
theorem skAll_length (inter : Bool) (ps : List Piece) : (skAll inter ps).length ≤ ps.length := by
  have : ∀ (ps : List Piece) (l : SkM), (ps.foldl (skStep inter) l).length ≤ l.length + ps.length := fun ps => by
    induction ps with
    | nil => simp
    | cons p ps ih =>
      intro l
      have h1 := ih (skStep inter l p)
      have h2 : (skStep inter l p).length ≤ l.length + 1 := by
        unfold skStep; split
        · omega
        · split <;> exact gset_length _ _ _
      simp only [List.foldl_cons, List.length_cons]; omega
  simpa [skAll] using this ps []
theorem skAll_succ {inter : Bool} {ps : List Piece} {k : Nat} {p : Piece} (h : ps[k]? = some p) : skAll inter (ps.take (k + 1)) = skStep inter (skAll inter (ps.take k)) p := by
  simp [skAll, List.take_add_one, h]
/-- so many at the head are given up -/
def goneN : List Piece → Nat
  | [] => 0
  | p :: ps => if p.how = 3 then goneN ps + 1 else 0
theorem goneN_stop : ∀ {ps : List Piece} {k : Nat}, (∀ p ∈ ps.take k, p.how = 3) → k ≤ ps.length → (∀ p, ps[k]? = some p → p.how ≠ 3) → goneN ps = k
  | [], k, _, hk, _ => by simp at hk; subst hk; rfl
  | p :: ps, 0, _, _, h => by
    have := h p rfl
    simp [goneN, this]
  | p :: ps, k + 1, h1, h2, h3 => by
    have h4 : p.how = 3 := h1 p (by simp)
    simp only [goneN, h4, if_true]
    rw [goneN_stop (k := k) (fun q hq => h1 q (by simp [hq])) (by simpa using h2) (fun q hq => h3 q (by simpa using hq))]
abbrev skOf (x : (UInt16 × Bool) × UInt32) : Skip := ⟨x.1.1, x.1.2, x.2⟩
def skLe (a b : Skip) : Bool := decide (a.stream < b.stream) || (decide (a.stream = b.stream) && (!a.loose || b.loose))
def sortSk (l : List Skip) : List Skip := l.mergeSort skLe
def Fm.point (f : Fm) (inter : Bool) : Option (Ck × List Skip) :=
  if goneN f.ps = 0 then none else some ({ kind := if inter then 194 else 192, tsn := f.mark + UInt32.ofNat (((goneN f.ps : Nat) : Int) % 4294967296).toNat }, sortSk ((skAll inter (f.ps.take (goneN f.ps))).map skOf))
theorem skLe_trans (a b c : Skip) (h1 : skLe a b = true) (h2 : skLe b c = true) : skLe a c = true := by
  simp only [skLe, Bool.or_eq_true, Bool.and_eq_true, decide_eq_true_eq, Bool.not_eq_true'] at *
  rcases h1 with h1 | ⟨h1, h1'⟩ <;> rcases h2 with h2 | ⟨h2, h2'⟩
  · exact .inl (UInt16.lt_trans h1 h2)
  · exact .inl (h2 ▸ h1)
  · exact .inl (h1 ▸ h2)
  · refine .inr ⟨h1.trans h2, ?_⟩
    rcases h1' with h | h
    · exact .inl h
    · rcases h2' with h' | h'
      · rw [h] at h'; cases h'
      · exact .inr h'
theorem skLe_total (a b : Skip) : (skLe a b || skLe b a) = true := by
  simp only [skLe, Bool.or_eq_true, Bool.and_eq_true, decide_eq_true_eq, Bool.not_eq_true']
  by_cases h : a.stream < b.stream
  · exact .inl (.inl h)
  · by_cases h2 : b.stream < a.stream
    · exact .inr (.inl h2)
    · have h3 : a.stream = b.stream := by
        apply UInt16.toNat_inj.1
        rw [UInt16.lt_iff_toNat_lt] at h h2
        omega
      cases ha : a.loose
      · exact .inl (.inr ⟨h3, .inl rfl⟩)
      · exact .inr (.inr ⟨h3.symm, .inr rfl⟩)
theorem skLe_anti {a b : Skip} (h1 : skLe a b = true) (h2 : skLe b a = true) : (a.stream, a.loose) = (b.stream, b.loose) := by
  simp only [skLe, Bool.or_eq_true, Bool.and_eq_true, decide_eq_true_eq, Bool.not_eq_true', UInt16.lt_iff_toNat_lt] at *
  have hs : a.stream = b.stream := by
    apply UInt16.toNat_inj.1
    rcases h1 with h1 | ⟨h1, _⟩ <;> rcases h2 with h2 | ⟨h2, _⟩
    · omega
    · rw [h2]
    · rw [h1]
    · rw [h1]
  have hl : a.loose = b.loose := by
    rcases h1 with h1 | ⟨_, h1⟩
    · rw [hs] at h1; omega
    · rcases h2 with h2 | ⟨_, h2⟩
      · rw [hs] at h2; omega
      · revert h1 h2; cases a.loose <;> cases b.loose <;> simp
  rw [hs, hl]
/-- sorted both, and of other keys: one order -/
theorem sorted_one : ∀ {l m : List Skip}, l.Perm m → (l.map fun s => (s.stream, s.loose)).Nodup → l.Pairwise (fun a b => skLe a b = true) → m.Pairwise (fun a b => skLe a b = true) → l = m
  | [], m, hp, _, _, _ => by have := hp.length_eq; simp at this; exact (List.eq_nil_of_length_eq_zero this.symm).symm
  | a :: l, [], hp, _, _, _ => by have := hp.length_eq; simp at this
  | a :: l, b :: m, hp, hn, h1, h2 => by
    have hab : a = b := by
      have ha : a ∈ b :: m := hp.subset (by simp)
      have hb : b ∈ a :: l := hp.symm.subset (by simp)
      rcases List.mem_cons.1 ha with h | h
      · exact h
      · rcases List.mem_cons.1 hb with h' | h'
        · exact h'.symm
        · have e1 := (List.pairwise_cons.1 h1).1 b h'
          have e2 := (List.pairwise_cons.1 h2).1 a h
          have := skLe_anti e1 e2
          simp only [List.map_cons, List.nodup_cons] at hn
          exact absurd (this ▸ List.mem_map.2 ⟨b, h', rfl⟩) hn.1
    subst hab
    have hp' : l.Perm m := (List.perm_cons a).1 hp
    rw [sorted_one hp' (by simp only [List.map_cons, List.nodup_cons] at hn; exact hn.2) (List.pairwise_cons.1 h1).2 (List.pairwise_cons.1 h2).2]
theorem sortSk_sorted (l : List Skip) : (sortSk l).Pairwise (fun a b => skLe a b = true) := List.pairwise_mergeSort skLe_trans skLe_total l
theorem sortSk_perm {l m : List Skip} (h : l.Perm m) (hn : (l.map fun s => (s.stream, s.loose)).Nodup) : sortSk l = sortSk m := by
  have h1 : (sortSk l).Perm l := List.mergeSort_perm l skLe
  have h2 : (sortSk m).Perm m := List.mergeSort_perm m skLe
  refine sorted_one (h1.trans (h.trans h2.symm)) ?_ (sortSk_sorted l) (sortSk_sorted m)
  exact ((h1.map _).nodup_iff).2 hn
def skAt (sk : SkM) (i : Nat) : Skip := ((sk[i]?).map skOf).getD default
theorem skAt_perm {sk : SkM} {is : List Nat} (h : is.Perm (List.range sk.length)) : (is.map (skAt sk)).Perm (sk.map skOf) := by
  refine (h.map _).trans (List.Perm.of_eq ?_)
  apply List.ext_getElem?
  intro i
  simp only [List.getElem?_map, List.getElem?_range]
  by_cases hi : i < sk.length
  · simp [List.getElem?_range hi, skAt, hi]
  · simp [hi]
theorem mU_get {κ β : Type} {e : β → Value} {l : List (κ × β)} {i : Nat} {k : κ} {v : Value} (h : (mU e l)[i]? = some (k, v)) : ∃ x, l[i]? = some x ∧ x.1 = k ∧ e x.2 = v := by
  simp only [mU, List.getElem?_map, Option.map_eq_some_iff, Prod.mk.injEq] at h
  exact h
theorem mU_length {κ β : Type} {e : β → Value} {l : List (κ × β)} : (mU e l).length = l.length := by simp [mU]
theorem sk_keys {sk : SkM} (h : (sk.map (·.1)).Nodup) : ((sk.map skOf).map fun s => (s.stream, s.loose)).Nodup := by
  rw [List.map_map]; exact h
def ptO (o : Option (Ck × List Skip)) : Ck × List Skip := o.getD ({}, [])
end Go.Fl
