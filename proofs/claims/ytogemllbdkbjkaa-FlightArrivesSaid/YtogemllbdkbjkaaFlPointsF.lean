/- FlightPoints, as data. -/
import Derived.Test.YtogemllbdkbjkaaFlTimesH
set_option linter.unusedVariables false
set_option linter.unusedSimpArgs false
namespace Go.Fl
open Go Go.Sl Go.Proofs
abbrev sOf (k : UInt8) : UInt16 := (k / 4 % 4).toUInt16
abbrev loOf (k : UInt8) : Bool := decide (k / 16 % 2 = 1)
abbrev stays (k : UInt8) : Bool := decide (k % 4 = 0)
section
variable (ks : List UInt8)
def kAt (i : Nat) : UInt8 := ks.getD i 0
def ckU (i : Nat) : Ck := { kind := 64, stream := sOf (kAt ks i), loose := loOf (kAt ks i), mid := UInt32.ofNat i, tsn := 100 + UInt32.ofNat i }
/-- piece i: as it was sent; given up or not -/
def pcU (how : Int) (i : Nat) : Piece := if stays (kAt ks i) then ⟨ckU ks i, [120], i, 0, 0, 1, 0, 0, 0⟩ else ⟨ckU ks i, [120], i, 2, 5, 1, 0, 0, how⟩
def stU (i : Nat) : Fm := ⟨99, (List.range i).map (pcU ks 0), []⟩
/-- the first k of n have been looked at -/
def exU (n k : Nat) : List Piece := (List.range n).map fun j => pcU ks (if j < k then 3 else 0) j
/-- given up all that may be -/
def stX (n : Nat) : Fm := ⟨99, (List.range n).map (pcU ks 3), []⟩
/-- so many ahead of the first that stays -/
def ahead : Nat → Nat
  | 0 => 0
  | i + 1 => if ahead i = i then (if stays (kAt ks i) then i else i + 1) else ahead i
def atU (k : UInt8) : Nat := 2 * (k / 4 % 4).toNat + if loOf k then 1 else 0
def latU : Nat → List Int
  | 0 => List.replicate 8 0
  | i + 1 => (latU i).set (atU (kAt ks i)) ((i : Int) + 1)
end
variable {ks : List UInt8}
theorem ahead_le : ∀ i, ahead ks i ≤ i
  | 0 => Nat.le_refl _
  | i + 1 => by
    have := ahead_le i
    simp only [ahead]
    (repeat' split) <;> omega
theorem ahead_no : ∀ {i j : Nat}, j < ahead ks i → stays (kAt ks j) = false
  | 0, j, h => by cases h
  | i + 1, j, h => by
    simp only [ahead] at h
    by_cases h1 : ahead ks i = i
    · rw [if_pos h1] at h
      cases hs : stays (kAt ks i)
      · simp only [hs, Bool.false_eq_true, if_false] at h
        rcases Nat.lt_or_ge j i with h2 | h2
        · exact ahead_no (i := i) (by omega)
        · have : j = i := by omega
          subst this; exact hs
      · simp only [hs, if_true] at h
        exact ahead_no (i := i) (by omega)
    · rw [if_neg h1] at h; exact ahead_no h
theorem ahead_at : ∀ {i : Nat}, ahead ks i < i → stays (kAt ks (ahead ks i)) = true
  | 0, h => by cases h
  | i + 1, h => by
    have hle := ahead_le (ks := ks) i
    simp only [ahead] at h ⊢
    by_cases h1 : ahead ks i = i
    · rw [if_pos h1] at h ⊢
      cases hs : stays (kAt ks i)
      · simp [hs] at h
      · simp [hs]
    · rw [if_neg h1]; exact ahead_at (by omega)
theorem pcU_c (h : Int) (i : Nat) : (pcU ks h i).c = ckU ks i := by unfold pcU; split <;> rfl
theorem pcU_body (h : Int) (i : Nat) : (pcU ks h i).body = [120] := by unfold pcU; split <;> rfl
theorem pcU_m (h : Int) (i : Nat) : (pcU ks h i).m = i := by unfold pcU; split <;> rfl
theorem pcU_missed (h : Int) (i : Nat) : (pcU ks h i).missed = 0 := by unfold pcU; split <;> rfl
theorem stU_next {i : Nat} (hi : i < 50) : (stU ks i).next = 100 + UInt32.ofNat i := next_of rfl (by simp [stU]) (by omega)
theorem stU_send0 {i : Nat} (hi : i < 50) (hs : stays (kAt ks i) = true) : (stU ks i).send i 0 0 { kind := 64, stream := sOf (kAt ks i), loose := loOf (kAt ks i), mid := UInt32.ofNat i } [120] 0 = stU ks (i + 1) := by
  simp only [Fm.send, Fm.newP, Ck.tsnAt, stU_next hi]
  simp [stU, List.range_succ, pcU, hs, ckU]
theorem stU_send2 {i : Nat} (hi : i < 50) (hs : stays (kAt ks i) = false) : (stU ks i).send i 2 5 { kind := 64, stream := sOf (kAt ks i), loose := loOf (kAt ks i), mid := UInt32.ofNat i } [120] 0 = stU ks (i + 1) := by
  simp only [Fm.send, Fm.newP, Ck.tsnAt, stU_next hi]
  simp [stU, List.range_succ, pcU, hs, ckU]
theorem rngN {i : Nat} (h : i < 50) : Rng (i : Int) := ⟨by omega, by omega⟩
theorem stU_ok {i : Nat} (hi : i < 50) : (stU ks i).ok := ok_of (by simp [stU]; omega) (fun q hq => by
  obtain ⟨j, _, rfl⟩ := List.mem_map.1 hq; exact ⟨by rw [pcU_body]; rfl, pcU_missed _ _⟩) List.nodup_nil ⟨fun q hq => by
  obtain ⟨j, hj, rfl⟩ := List.mem_map.1 hq; rw [pcU_m]; exact rngN (by have := List.mem_range.1 hj; omega), fun k hk => by cases hk⟩
theorem stX_ok {i : Nat} (hi : i < 50) : (stX ks i).ok := ok_of (by simp [stX]; omega) (fun q hq => by
  obtain ⟨j, _, rfl⟩ := List.mem_map.1 hq; exact ⟨by rw [pcU_body]; rfl, pcU_missed _ _⟩) List.nodup_nil ⟨fun q hq => by
  obtain ⟨j, hj, rfl⟩ := List.mem_map.1 hq; rw [pcU_m]; exact rngN (by have := List.mem_range.1 hj; omega), fun k hk => by cases hk⟩
theorem exU_get {n k : Nat} (hk : k < n) : (exU ks n k)[k]? = some (pcU ks 0 k) := by simp [exU, hk]
theorem exU_give {n k : Nat} (hs : stays (kAt ks k) = false) : (exU ks n k).map (giveP k) = exU ks n (k + 1) := by
  simp only [exU, List.map_map]
  apply List.map_congr_left
  intro j _
  simp only [Function.comp, giveP, pcU_m, Int.natCast_inj]
  by_cases hj : j = k
  · subst hj
    simp [pcU, hs, Piece.isOpen]
  · have : (j < k + 1) = (j < k) := by apply propext; omega
    simp [hj, this]
theorem exU_stay {n k : Nat} (hs : stays (kAt ks k) = true) : exU ks n k = exU ks n (k + 1) := by
  apply List.map_congr_left
  intro j _
  by_cases hj : j = k
  · subst hj; simp [pcU, hs]
  · have : (j < k + 1) = (j < k) := by apply propext; omega
    simp [this]
theorem expU {n : Nat} : ∀ j k (gone : List Int), k + j = n → ∃ g : List Int, Fm.expK 6 j k ⟨99, exU ks n k, gone⟩ = ⟨99, exU ks n n, g⟩ ∧ g.length ≤ gone.length + j
  | 0, k, gone, h => ⟨gone, by rw [show k = n by omega]; rfl, Nat.le_refl _⟩
  | j + 1, k, gone, h => by
    have hg := exU_get (ks := ks) (n := n) (k := k) (by omega)
    simp only [Fm.expK, hg]
    cases hs : stays (kAt ks k)
    · have ho : (pcU ks 0 k).over 6 := by
        have e : pcU ks 0 k = ⟨ckU ks k, [120], k, 2, 5, 1, 0, 0, 0⟩ := by simp [pcU, hs]
        rw [e]; exact ⟨⟨by simp [Piece.isOpen], rfl⟩, by show less 5 6 = true; decide⟩
      rw [if_pos ho, pcU_m]
      simp only [Fm.give, exU_give hs]
      obtain ⟨g, h1, h2⟩ := expU (n := n) j (k + 1) (insI gone k) (by omega)
      refine ⟨g, h1, ?_⟩
      have : (insI gone (k : Int)).length ≤ gone.length + 1 := by unfold insI; split <;> simp
      omega
    · have ho : ¬ (pcU ks 0 k).over 6 := by
        rintro ⟨⟨_, h⟩, _⟩
        simp only [pcU, hs, if_true] at h; cases h
      rw [if_neg ho, exU_stay hs]
      obtain ⟨g, h1, h2⟩ := expU (n := n) j (k + 1) gone (by omega)
      exact ⟨g, h1, by omega⟩
theorem exU_zero {n : Nat} : exU ks n 0 = (stU ks n).ps := by simp [exU, stU]
theorem exU_all {n : Nat} : exU ks n n = (stX ks n).ps := by
  apply List.map_congr_left
  intro j hj
  simp [List.mem_range.1 hj]
theorem stU_expG {n : Nat} : ∃ g : List Int, (stU ks n).expireG 6 = ⟨99, (stX ks n).ps, g⟩ ∧ g.length ≤ n := by
  obtain ⟨g, h1, h2⟩ := expU (ks := ks) (n := n) n 0 [] (by omega)
  refine ⟨g, ?_, by simpa using h2⟩
  rw [exU_zero, exU_all] at h1
  have e : (stU ks n).ps.length = n := by simp [stU]
  show Fm.expK 6 (stU ks n).ps.length 0 _ = _
  rw [e]; exact h1
theorem stU_gone {n : Nat} (hn : n < 50) : ((stU ks n).expireG 6).gone.length ≤ 1000000000 := by
  obtain ⟨g, h1, h2⟩ := stU_expG (ks := ks) (n := n)
  rw [h1]; show g.length ≤ _; omega
theorem stU_expire {n : Nat} : ((stU ks n).expire 6).2 = stX ks n := by
  obtain ⟨g, h1, _⟩ := stU_expG (ks := ks) (n := n)
  simp only [Fm.expire, h1]; rfl
theorem stX_goneN {n : Nat} : goneN (stX ks n).ps = ahead ks n := by
  have hle := ahead_le (ks := ks) n
  refine goneN_stop (fun q hq => ?_) (by simpa [stX] using hle) fun q hq => ?_
  · obtain ⟨j, hj⟩ := List.mem_iff_getElem?.1 hq
    have hj2 : j < ahead ks n := by
      rw [List.getElem?_take] at hj
      split at hj
      · assumption
      · cases hj
    rw [List.getElem?_take, if_pos hj2] at hj
    have e : (stX ks n).ps[j]? = some (pcU ks 3 j) := by simp [stX, show j < n by omega]
    rw [e] at hj; cases hj
    simp [pcU, ahead_no hj2]
  · rcases Nat.lt_or_ge (ahead ks n) n with h | h
    · have e : (stX ks n).ps[ahead ks n]? = some (pcU ks 3 (ahead ks n)) := by simp [stX, h]
      rw [e] at hq; cases hq
      simp [pcU, ahead_at h]
    · rw [List.getElem?_eq_none (by simpa [stX] using h)] at hq; cases hq
/-! ### the skips -/
abbrev keyU (k : UInt8) : UInt16 × Bool := (sOf k, loOf k)
theorem atU_lt (k : UInt8) : atU k < 8 := by
  unfold atU
  have : (k / 4 % 4).toNat < 4 := by rw [UInt8.toNat_mod]; exact Nat.mod_lt _ (by decide)
  split <;> omega
theorem keyU_inj {a b : UInt8} (h : keyU a = keyU b) : atU a = atU b := by
  simp only [keyU, Prod.mk.injEq] at h
  unfold atU
  have h1 : (k : UInt8) → (sOf k).toNat = (k / 4 % 4).toNat := fun k => by simp [sOf]
  have e1 := h1 a; have e2 := h1 b
  rw [h.1] at e1
  rw [h.2]; omega
/-- what is kept for a place: the stream, the order, the number -/
def wantU (l : List Int) : List Skip := (List.range 8).filterMap fun a => if 0 < l.getD a 0 then some ⟨UInt16.ofNat (a / 2), decide (a % 2 = 1), UInt32.ofNat ((l.getD a 0) - 1).toNat⟩ else none

def lastU (ks : List UInt8) (a : Nat) : Nat → Int
  | 0 => 0
  | i + 1 => if atU (kAt ks i) = a then (i : Int) + 1 else lastU ks a i
theorem latU_length : ∀ i, (latU ks i).length = 8
  | 0 => rfl
  | i + 1 => by simp [latU, latU_length i]
theorem latU_get : ∀ (i a : Nat), a < 8 → (latU ks i)[a]? = some (lastU ks a i)
  | 0, a, h => by rw [latU, lastU, List.getElem?_replicate, if_pos h]
  | i + 1, a, h => by
    simp only [latU, lastU]
    rw [List.getElem?_set]
    split
    · rename_i e; subst e; simp [latU_length, h]
    · exact latU_get i a h
theorem lastU_le (a : Nat) : ∀ i, 0 ≤ lastU ks a i ∧ lastU ks a i ≤ i
  | 0 => by simp [lastU]
  | i + 1 => by
    have := lastU_le a i
    simp only [lastU]
    split <;> omega
theorem lastU_at (a : Nat) : ∀ i, 0 < lastU ks a i → atU (kAt ks (lastU ks a i - 1).toNat) = a
  | 0, h => by simp [lastU] at h
  | i + 1, h => by
    simp only [lastU] at h ⊢
    split
    · rename_i e; simpa using e
    · rename_i e; rw [if_neg e] at h; exact lastU_at a i h
theorem glook_gset {κ β : Type} [DecidableEq κ] : ∀ (l : List (κ × β)) (k k' : κ) (u : β), glook (gset l k u) k' = if k = k' then some u else glook l k'
  | [], k, k', u => by simp [gset, glook]
  | (j, v) :: l, k, k', u => by
    have ih := glook_gset l k k' u
    simp only [gset]
    by_cases h : j = k
    · subst h; rw [if_pos rfl]; simp only [glook]; split <;> rfl
    · rw [if_neg h]
      simp only [glook, ih]
      by_cases h1 : j = k'
      · subst h1; rw [if_pos rfl, if_pos rfl, if_neg (fun e => h e.symm)]
      · simp [h1]
theorem glook_mem {κ β : Type} [DecidableEq κ] {k : κ} {v : β} : ∀ {l : List (κ × β)}, (l.map (·.1)).Nodup → ((k, v) ∈ l ↔ glook l k = some v)
  | [], _ => by simp [glook]
  | (j, u) :: l, h => by
    simp only [List.map_cons, List.nodup_cons] at h
    have ih := glook_mem (k := k) (v := v) h.2
    simp only [List.mem_cons, Prod.mk.injEq, glook]
    by_cases hj : j = k
    · subst hj
      have hn : (j, v) ∉ l := fun hm => h.1 (List.mem_map.2 ⟨_, hm, rfl⟩)
      simp [hn, eq_comm]
    · have hj' : ¬ k = j := fun e => hj e.symm
      simp [hj, hj', ih]
def gU (ks : List UInt8) : Nat → SkM
  | 0 => []
  | i + 1 => gset (gU ks i) (keyU (kAt ks i)) (UInt32.ofNat i)
abbrev keyOf (a : Nat) : UInt16 × Bool := (UInt16.ofNat (a / 2), decide (a % 2 = 1))
theorem u8_all {p : UInt8 → Prop} (h : ∀ n, n < 256 → p (UInt8.ofNat n)) (k : UInt8) : p k := by
  have := h k.toNat k.toNat_lt
  rwa [UInt8.ofNat_toNat] at this
theorem keyU_of (k : UInt8) : keyU k = keyOf (atU k) := u8_all (p := fun k => keyU k = keyOf (atU k)) (by decide +kernel) k
theorem keyOf_inj : ∀ a, a < 8 → ∀ b, b < 8 → keyOf a = keyOf b → a = b := by decide
theorem keyU_eq {k : UInt8} {a : Nat} (ha : a < 8) : keyU k = keyOf a ↔ atU k = a := by
  rw [keyU_of]
  exact ⟨fun h => keyOf_inj _ (atU_lt k) _ ha h, fun h => by rw [h]⟩
theorem gU_look (a : Nat) (ha : a < 8) : ∀ i, glook (gU ks i) (keyOf a) = if 0 < lastU ks a i then some (UInt32.ofNat (lastU ks a i - 1).toNat) else none
  | 0 => by simp [gU, glook, lastU]
  | i + 1 => by
    simp only [gU, lastU, glook_gset, keyU_eq ha]
    split
    · rw [if_pos (by omega)]
      congr 2; omega
    · exact gU_look a ha i
theorem gU_key {k : UInt16 × Bool} {m : UInt32} : ∀ i, glook (gU ks i) k = some m → ∃ j, j < i ∧ keyU (kAt ks j) = k ∧ m = UInt32.ofNat j
  | 0, h => by simp [gU, glook] at h
  | i + 1, h => by
    simp only [gU, glook_gset] at h
    split at h
    · rename_i e; exact ⟨i, by omega, e, by simpa using h.symm⟩
    · obtain ⟨j, h1, h2, h3⟩ := gU_key i h
      exact ⟨j, by omega, h2, h3⟩
theorem later_up {j i : Nat} (h : j < i) (hi : i < 50) : later (UInt32.ofNat j) (UInt32.ofNat i) = UInt32.ofNat i := by
  have : ∀ i, i < 50 → ∀ j, j < i → later (UInt32.ofNat j) (UInt32.ofNat i) = UInt32.ofNat i := by decide +kernel
  exact this i hi j h
theorem skU {n : Nat} : ∀ i, i ≤ n → i < 50 → skAll true (((List.range n).map (pcU ks 3)).take i) = gU ks i
  | 0, _, _ => by simp [skAll, gU]
  | i + 1, hi, h50 => by
    have ih := skU (n := n) i (by omega) (by omega)
    rw [skAll_succ (p := pcU ks 3 i) (by simp [show i < n by omega]), ih]
    simp only [skStep, skKey, pcU_c, ckU, gU, Bool.not_true, Bool.and_false, Bool.false_eq_true, if_false]
    cases hg : glook (gU ks i) (keyU (kAt ks i)) with
    | none => rfl
    | some m =>
      obtain ⟨j, h1, _, rfl⟩ := gU_key i hg
      show gset _ _ (later (UInt32.ofNat j) (UInt32.ofNat i)) = _
      rw [later_up h1 (by omega)]
theorem gU_nodup : ∀ i, ((gU ks i).map (·.1)).Nodup
  | 0 => by simp [gU]
  | i + 1 => gset_nodup (gU_nodup i) _ _
theorem wantU_mem {i : Nat} {s : Skip} : s ∈ wantU (latU ks i) ↔ ∃ a, a < 8 ∧ 0 < lastU ks a i ∧ s = ⟨UInt16.ofNat (a / 2), decide (a % 2 = 1), UInt32.ofNat (lastU ks a i - 1).toNat⟩ := by
  have hg : ∀ a, a < 8 → (latU ks i).getD a 0 = lastU ks a i := fun a ha => by rw [List.getD_eq_getElem?_getD, latU_get i a ha]; rfl
  simp only [wantU, List.mem_filterMap, List.mem_range]
  constructor
  · rintro ⟨a, ha, h⟩
    rw [hg a ha] at h
    split at h
    · rename_i h0; exact ⟨a, ha, h0, by simpa using h.symm⟩
    · cases h
  · rintro ⟨a, ha, h0, rfl⟩
    exact ⟨a, ha, by rw [hg a ha, if_pos h0]⟩
theorem nodup_unmap {α β : Type} {f : α → β} {l : List α} (h : (l.map f).Nodup) : l.Nodup := by
  rw [List.Nodup, List.pairwise_map] at h
  exact h.imp fun {a b} (hn : f a ≠ f b) (e : a = b) => hn (congrArg f e)
theorem skLe_key {a b : Skip} : skLe a b = skLe ⟨a.stream, a.loose, 0⟩ ⟨b.stream, b.loose, 0⟩ := rfl
theorem wantU_sorted (l : List Int) : (wantU l).Pairwise (fun a b => skLe a b = true) := by
  unfold wantU
  rw [List.pairwise_filterMap]
  have h : (List.range 8).Pairwise (fun a b => a < b ∧ b < 8) := by decide
  refine h.imp ?_
  intro a b hab x hx y hy
  have hx' : x.stream = UInt16.ofNat (a / 2) ∧ x.loose = decide (a % 2 = 1) := by split at hx <;> cases hx; exact ⟨rfl, rfl⟩
  have hy' : y.stream = UInt16.ofNat (b / 2) ∧ y.loose = decide (b % 2 = 1) := by split at hy <;> cases hy; exact ⟨rfl, rfl⟩
  rw [skLe_key, hx'.1, hx'.2, hy'.1, hy'.2]
  have : ∀ b, b < 8 → ∀ a, a < b → skLe ⟨UInt16.ofNat (a / 2), decide (a % 2 = 1), 0⟩ ⟨UInt16.ofNat (b / 2), decide (b % 2 = 1), 0⟩ = true := by decide +kernel
  exact this b hab.2 a hab.1
theorem wantU_keys (l : List Int) : ((wantU l).map fun s => (s.stream, s.loose)).Nodup := by
  unfold wantU
  rw [List.Nodup, List.pairwise_map, List.pairwise_filterMap]
  have h : (List.range 8).Pairwise (fun a b => a < b ∧ b < 8) := by decide
  refine h.imp ?_
  intro a b hab x hx y hy
  have hx' : (x.stream, x.loose) = keyOf a := by split at hx <;> cases hx; rfl
  have hy' : (y.stream, y.loose) = keyOf b := by split at hy <;> cases hy; rfl
  rw [hx', hy']
  intro e
  have := keyOf_inj a (by omega) b hab.2 e
  omega
theorem skU_sorted {i : Nat} : sortSk ((gU ks i).map skOf) = wantU (latU ks i) := by
  have h1 : (sortSk ((gU ks i).map skOf)).Perm ((gU ks i).map skOf) := List.mergeSort_perm _ skLe
  have hk := sk_keys (gU_nodup (ks := ks) i)
  refine sorted_one (h1.trans ?_) (((h1.map _).nodup_iff).2 hk) (sortSk_sorted _) (wantU_sorted _)
  refine (List.perm_ext_iff_of_nodup (nodup_unmap hk) (nodup_unmap (wantU_keys _))).2 fun s => ?_
  rw [wantU_mem]
  constructor
  · intro hs
    obtain ⟨⟨k, m⟩, hm, rfl⟩ := List.mem_map.1 hs
    have hl := (glook_mem (gU_nodup i)).1 hm
    obtain ⟨j, _, rfl, _⟩ := gU_key i hl
    rw [keyU_of, gU_look _ (atU_lt _)] at hl
    split at hl
    · rename_i h0
      refine ⟨atU (kAt ks j), atU_lt _, h0, ?_⟩
      have e := keyU_of (kAt ks j)
      simp only [Option.some.injEq] at hl
      rw [← hl]
      simp only [keyU, keyOf, Prod.mk.injEq] at e
      simp only [skOf, e.1, e.2]
    · cases hl
  · rintro ⟨a, ha, h0, rfl⟩
    have hl := gU_look (ks := ks) a ha i
    rw [if_pos h0] at hl
    exact List.mem_map.2 ⟨_, (glook_mem (gU_nodup i)).2 hl, rfl⟩
def skW (l : List Int) (a : Nat) : Skip := ⟨UInt16.ofNat (a / 2), decide (a % 2 = 1), UInt32.ofNat ((l.getD a 0) - 1).toNat⟩
def wantK (l : List Int) (i : Nat) : List Skip := (List.range i).filterMap fun a => if 0 < l.getD a 0 then some (skW l a) else none
theorem wantK_8 (l : List Int) : wantK l 8 = wantU l := rfl
theorem wantK_yes {l : List Int} {i : Nat} (h : 0 < l.getD i 0) : wantK l (i + 1) = wantK l i ++ [skW l i] := by
  simp only [wantK, List.range_succ, List.filterMap_append, List.filterMap_cons, List.filterMap_nil, if_pos h]
theorem wantK_no {l : List Int} {i : Nat} (h : ¬ 0 < l.getD i 0) : wantK l (i + 1) = wantK l i := by
  simp only [wantK, List.range_succ, List.filterMap_append, List.filterMap_cons, List.filterMap_nil, if_neg h, List.append_nil]
theorem latU_getD {i a : Nat} (ha : a < 8) : (latU ks i).getD a 0 = lastU ks a i := by rw [List.getD_eq_getElem?_getD, latU_get i a ha]; rfl
theorem wantK_len (l : List Int) : ∀ i, (wantK l i).length ≤ i
  | 0 => Nat.le_refl _
  | i + 1 => by
    have := wantK_len l i
    by_cases h : 0 < l.getD i 0
    · rw [wantK_yes h]; simp; exact this
    · rw [wantK_no h]; omega
theorem skc_snoc' (l : List Skip) (s : Skip) : skc l ++ skv s = skc (l ++ [s]) := by simp [skc]
theorem skc_at : ∀ {l : List Skip} {i : Nat} {s : Skip}, l[i]? = some s → ((skc l).drop (i * 3)).take 3 = skv s
  | _ :: _, 0, _, h => by simp only [List.getElem?_cons_zero, Option.some.injEq] at h; subst h; rfl
  | x :: l, i + 1, s, h => by
    simp only [List.getElem?_cons_succ] at h
    have ih := skc_at h
    rw [show (i + 1) * 3 = i * 3 + 3 by omega]
    exact ih
theorem stX_point {n : Nat} (hn : n < 50) : (stX ks n).point true = if ahead ks n = 0 then none else some ({ kind := 194, tsn := 99 + UInt32.ofNat (ahead ks n) }, wantU (latU ks (ahead ks n))) := by
  have hle := ahead_le (ks := ks) n
  simp only [Fm.point, stX_goneN]
  split
  · rfl
  · rw [show (stX ks n).ps = (List.range n).map (pcU ks 3) from rfl, skU _ hle (by omega), skU_sorted]
    rw [show (((ahead ks n : Nat) : Int) % 4294967296).toNat = ahead ks n by omega]
    rfl
end Go.Fl
