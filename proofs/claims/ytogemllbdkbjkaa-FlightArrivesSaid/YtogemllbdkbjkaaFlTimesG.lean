/- FlightTimes, as data: what else is asked. -/
import Derived.Test.YtogemllbdkbjkaaFlTimesF
set_option linter.unusedVariables false
set_option linter.unusedSimpArgs false
namespace Go.Fl
open Go Go.Sl
variable {k : UInt32} {p : Nat} {o : Int}
theorem goneN_zero {ps : List Piece} (h : ∀ q ∈ ps, q.how ≠ 3) : goneN ps = 0 := by
  cases ps with
  | nil => rfl
  | cons a l => simp [goneN, h a (by simp)]
theorem stS_how {r : Nat} : ∀ q ∈ (stS k p o r).ps, q.how = 0 ∧ (q.lk = 0 ∨ q.lk = 1) := by
  intro q hq
  rcases List.mem_append.1 hq with h | h
  · obtain ⟨j, _, rfl⟩ := List.mem_map.1 h
    simp [pcT]
  · simp only [List.mem_singleton] at h
    subst h; simp [otT]
theorem stS_point {r : Nat} (inter : Bool) : (stS k p o r).point inter = none := by
  have h : goneN (stS k p o r).ps = 0 := goneN_zero fun q hq => by have := (stS_how q hq).1; omega
  simp [Fm.point, h]
theorem expire_none {f : Fm} {now : UInt32} (h : ∀ q ∈ f.ps, q.lk ≠ 2) : f.expireG now = f := by
  have : ∀ j k, Fm.expK now j k f = f := fun j => by
    induction j with
    | zero => intro k; rfl
    | succ j ih =>
      intro k
      simp only [Fm.expK]
      cases hg : f.ps[k]? with
      | none => rfl
      | some q =>
        have hq := h q (List.mem_of_getElem? hg)
        have hno : ¬ q.over now := fun hc => hq hc.1.2
        simp only [if_neg hno]
        exact ih (k + 1)
  exact this _ _
theorem stS_expireG {r : Nat} {now : UInt32} : (stS k p o r).expireG now = stS k p o r := expire_none fun q hq => by have := (stS_how q hq).2; omega
theorem sortI_nil : sortI [] = [] := by simp [sortI]
theorem sortI_one (a : Int) : sortI [a] = [a] := by simp [sortI]
theorem stS_expire {r : Nat} {now : UInt32} : (stS k p o r).expire now = ([], stS k p o r) := by
  simp only [Fm.expire, stS_expireG]
  rw [show (stS k p o r).gone = [] from rfl, sortI_nil]
  rfl
/-- the first is lost and was tried as often as it may be: its message is given up -/
theorem again_give {f : Fm} {now : UInt32} {A B : List Piece} {q : Piece} (hf : f.ps = q :: B) (hq : q.how = 1) (hs : q.spent) : f.again now = Fm.againK now (f.ps.length - 1) 1 (f.give q.m) := by
  have hg : f.ps[0]? = some q := by rw [hf]; rfl
  have := againK_give (now := now) (n := f.ps.length) (k := 0) (g := f) (by rw [hf]; simp) hg hq hs
  exact this
theorem againK_skips {now : UInt32} {f : Fm} {A B : List Piece} (hf : f.ps = A ++ B) (hA : ∀ a ∈ A, a.how ≠ 1) : ∀ j i, i + j = A.length → Fm.againK now (f.ps.length - i) i f = Fm.againK now (f.ps.length - A.length) A.length f := fun j => by
  induction j with
  | zero => intro i hi; simp at hi; subst hi; rfl
  | succ j ih =>
    intro i hi
    have hg : f.ps[i]? = some (A[i]'(by omega)) := by rw [hf, List.getElem?_append_left (by omega)]; simp
    rw [againK_skip (by rw [hf]; simp; omega) hg (hA _ (List.getElem_mem _))]
    exact ih (i + 1) (by omega)
/-- given up -/
def stE (k : UInt32) (p : Nat) (o : Int) (b : Piece) : Fm := ⟨99, (List.range p).map (pcT k (sentR k.toNat) (atR k.toNat) 3) ++ [b], [7]⟩
theorem stR_give : (stR k p o k.toNat 0).give 7 = stE k p o (if o = 7 then otT p o (sentR k.toNat) (atR k.toNat) 3 else otT p o (sentR k.toNat) (atR k.toNat) 1) := by
  simp only [Fm.give, stR, stE, List.range_zero, List.map_nil, List.nil_append, Nat.sub_zero, List.map_append, List.map_map, List.map_cons, insI, List.not_mem_nil, if_false]
  congr 1
  rw [List.range_eq_range']
  congr 1
  by_cases ho : o = 7 <;> simp [giveP, otT, Piece.isOpen, ho]
theorem pcT_spent (hk : k.toNat < 20) (j : Nat) : (pcT k (sentR k.toNat) (atR k.toNat) 1 j).spent := by
  refine ⟨rfl, ?_⟩
  simp only [pcT, sentR, UInt64.lt_iff_toNat_lt, UInt32.toNat_toUInt64]
  rw [UInt64.toNat_ofNat_of_lt' (by show k.toNat + 1 < 18446744073709551616; omega)]
  omega
theorem stR_last (hp : 0 < p) (hk : k.toNat < 20) : (stR k p o k.toNat 0).again 1 =
    if o = 7 then (none, stE k p o (otT p o (sentR k.toNat) (atR k.toNat) 3)) else (some (otT p o (sentR (k.toNat + 1)) 1 0), stE k p o (otT p o (sentR (k.toNat + 1)) 1 0)) := by
  obtain ⟨p', rfl⟩ : ∃ q, p = q + 1 := ⟨p - 1, by omega⟩
  have hf : (stR k (p' + 1) o k.toNat 0).ps = pcT k (sentR k.toNat) (atR k.toNat) 1 0 :: ((List.range' 1 p').map (pcT k (sentR k.toNat) (atR k.toNat) 1) ++ [otT (p' + 1) o (sentR k.toNat) (atR k.toNat) 1]) := by
    simp [stR, List.range'_succ]
  rw [again_give (A := []) hf rfl (pcT_spent hk 0)]
  rw [show (pcT k (sentR k.toNat) (atR k.toNat) 1 0).m = 7 from rfl, stR_give]
  have hlen : (stR k (p' + 1) o k.toNat 0).ps.length = p' + 2 := by rw [hf]; simp
  rw [hlen]
  by_cases ho : o = 7
  · simp only [ho, if_true]
    have h1 : (stE k (p' + 1) 7 (otT (p' + 1) 7 (sentR k.toNat) (atR k.toNat) 3)).ps.length = p' + 2 := by simp [stE]
    have := againK_skips (now := 1) (f := stE k (p' + 1) 7 (otT (p' + 1) 7 (sentR k.toNat) (atR k.toNat) 3)) (A := (stE k (p' + 1) 7 (otT (p' + 1) 7 (sentR k.toNat) (atR k.toNat) 3)).ps) (B := []) (by simp) (fun a ha => by
      rcases List.mem_append.1 ha with h | h
      · obtain ⟨j, _, rfl⟩ := List.mem_map.1 h; simp [pcT]
      · simp only [List.mem_singleton] at h; subst h; simp [otT]) (p' + 1) 1 (by rw [h1]; omega)
    rw [h1] at this
    rw [this, againK_end (Nat.le_refl _)]
  · simp only [ho, if_false]
    have h1 : (stE k (p' + 1) o (otT (p' + 1) o (sentR k.toNat) (atR k.toNat) 1)).ps.length = p' + 2 := by simp [stE]
    have := againK_skips (now := 1) (f := stE k (p' + 1) o (otT (p' + 1) o (sentR k.toNat) (atR k.toNat) 1)) (A := (List.range (p' + 1)).map (pcT k (sentR k.toNat) (atR k.toNat) 3)) (B := [otT (p' + 1) o (sentR k.toNat) (atR k.toNat) 1]) rfl (fun a ha => by
      obtain ⟨j, _, rfl⟩ := List.mem_map.1 ha; simp [pcT]) p' 1 (by simp; omega)
    rw [h1] at this
    simp only [List.length_map, List.length_range] at this
    rw [this, againK_hit (p := otT (p' + 1) o (sentR k.toNat) (atR k.toNat) 1) (by omega) (by simp [stE]) rfl (by rintro ⟨h, _⟩; simp [otT] at h)]
    have hsent : (otT (p' + 1) o (sentR k.toNat) (atR k.toNat) 1).anew 1 = otT (p' + 1) o (sentR (k.toNat + 1)) 1 0 := by
      simp only [Piece.anew, otT, sentR]
      congr 1
      simp
    rw [hsent]
    simp [stE]
theorem stE_left1 (hp : o = 7) : (stE k p o (otT p o (sentR k.toNat) (atR k.toNat) 3)).left = 0 := by
  simp [Fm.left, stE, pcT, otT, Piece.isOpen, Function.comp_def, List.filter_map]
theorem stE_left2 : (stE k p o (otT p o (sentR (k.toNat + 1)) 1 0)).left = 1 := by
  have h : List.filter (fun _ => false) (List.range p) = [] := List.filter_eq_nil_iff.2 (by simp)
  simp [Fm.left, stE, pcT, otT, Piece.isOpen, Function.comp_def, List.filter_map, h]
theorem stE_goneN : goneN (stE k p o (otT p o (sentR (k.toNat + 1)) 1 0)).ps = p := by
  refine goneN_stop (fun q hq => ?_) (by simp [stE]) fun q hq => ?_
  · rw [show (stE k p o (otT p o (sentR (k.toNat + 1)) 1 0)).ps.take p = (List.range p).map (pcT k (sentR k.toNat) (atR k.toNat) 3) by simp [stE]] at hq
    obtain ⟨j, _, rfl⟩ := List.mem_map.1 hq; rfl
  · have : (stE k p o (otT p o (sentR (k.toNat + 1)) 1 0)).ps[p]? = some (otT p o (sentR (k.toNat + 1)) 1 0) := by simp [stE]
    rw [this] at hq; cases hq; simp [otT]
theorem stE_sk : ∀ (n : Nat), 0 < n → skAll true ((List.range n).map (pcT k (sentR k.toNat) (atR k.toNat) 3)) = [((4, false), 9)]
  | 1, _ => by simp [skAll, skStep, pcT, glook, gset]
  | n + 2, _ => by
    have ih := stE_sk (n + 1) (by omega)
    rw [List.range_succ, List.map_append]
    unfold skAll at ih ⊢
    rw [List.foldl_append, ih]
    simp [skStep, pcT, glook, gset, later, less]
theorem stE_point (hp : 0 < p) : (stE k p o (otT p o (sentR (k.toNat + 1)) 1 0)).point true = some ({ kind := 194, tsn := 99 + UInt32.ofNat ((p : Int) % 4294967296).toNat }, [⟨4, false, 9⟩]) := by
  have h1 := stE_goneN (k := k) (p := p) (o := o)
  have h2 : (stE k p o (otT p o (sentR (k.toNat + 1)) 1 0)).ps.take p = (List.range p).map (pcT k (sentR k.toNat) (atR k.toNat) 3) := by simp [stE]
  have h3 : p ≠ 0 := by omega
  simp only [Fm.point, h1, if_neg h3, h2, stE_sk p hp, if_true]
  rw [show sortSk (List.map skOf [((4, false), 9)]) = [⟨4, false, 9⟩] by simp [sortSk, skOf]]
  rfl
theorem stE_expire {now : UInt32} : (stE k p o (otT p o (sentR (k.toNat + 1)) 1 0)).expire now = ([7], { stE k p o (otT p o (sentR (k.toNat + 1)) 1 0) with gone := [] }) := by
  have h : (stE k p o (otT p o (sentR (k.toNat + 1)) 1 0)).expireG now = stE k p o (otT p o (sentR (k.toNat + 1)) 1 0) := expire_none fun q hq => by
    rcases List.mem_append.1 hq with h | h
    · obtain ⟨j, _, rfl⟩ := List.mem_map.1 h; simp [pcT]
    · simp only [List.mem_singleton] at h; subst h; simp [otT]
  simp only [Fm.expire, h]
  rw [show (stE k p o (otT p o (sentR (k.toNat + 1)) 1 0)).gone = [7] from rfl, sortI_one]
end Go.Fl
