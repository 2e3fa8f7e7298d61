/- FlightArrives, as data. -/
import Derived.Test.YtogemllbdkbjkaaFlPointsF
set_option linter.unusedVariables false
set_option linter.unusedSimpArgs false
namespace Go.Fl
open Go Go.Sl Go.Proofs
section
variable (st : UInt32) (zs : List UInt8)
/-- piece i, as it was sent -/
structure PcOk (i : Nat) (p : Piece) : Prop where
  tsn : p.c.tsn = st + UInt32.ofNat i
  mid : p.c.mid = UInt32.ofNat i
  body : p.body.length = 1 + (kAt zs i).toNat
  lk : p.lk = 0
  miss : 0 ≤ p.missed ∧ p.missed ≤ 3
  rng : Rng p.m
/-- a flight of the pieces from up on, n in all, of which Q holds -/
structure Ar (n up : Nat) (Q : Nat → Piece → Prop) (f : Fm) : Prop where
  mark : f.mark = st + UInt32.ofNat up - 1
  len : f.ps.length + up = n
  small : n ≤ 30
  pc : ∀ j p, f.ps[j]? = some p → PcOk st zs (up + j) p ∧ Q (up + j) p
  gone : f.gone = []
end
variable {st : UInt32} {zs : List UInt8} {n up : Nat} {Q : Nat → Piece → Prop} {f : Fm}
theorem Ar.ok (h : Ar st zs n up Q f) : f.ok := by
  have hl := h.len; have hs := h.small
  refine ⟨by omega, fun p hp => ?_, fun p hp => ?_, by rw [h.gone]; exact List.nodup_nil, fun p hp => ?_, by rw [h.gone]; intro k hk; cases hk⟩
  all_goals
    obtain ⟨j, hj⟩ := List.mem_iff_getElem?.1 hp
    obtain ⟨h1, _⟩ := h.pc j p hj
  · have := (kAt zs (up + j)).toNat_lt
    rw [h1.body]; omega
  · exact h1.miss
  · exact h1.rng
theorem Ar.weaken {Q' : Nat → Piece → Prop} (h : Ar st zs n up Q f) (hq : ∀ i p, i < n → Q i p → Q' i p) : Ar st zs n up Q' f :=
  ⟨h.mark, h.len, h.small, fun j p hp => ⟨(h.pc j p hp).1, hq _ p (by have := (List.getElem?_eq_some_iff.1 hp).1; have := h.len; omega) (h.pc j p hp).2⟩, h.gone⟩
/-- at a round's beginning -/
abbrev Q0 (h : Nat → Bool) (i : Nat) (p : Piece) : Prop := if h i then p.how = 2 else p.how = 0 ∧ p.missed = 0
/-- acknowledged -/
abbrev Q1 (h : Nat → Bool) (i : Nat) (p : Piece) : Prop := if h i then p.how = 2 else p.how = 0 ∨ p.how = 1
/-- lost, but for those that were sent again -/
abbrev Q3 (h : Nat → Bool) (k i : Nat) (p : Piece) : Prop := if h i then p.how = 2 else if i < k then p.how = 0 ∧ p.missed = 0 else p.how = 1
theorem Ar.start (hn : f = ⟨st - 1, [], []⟩) : Ar st zs 0 0 (Q0 fun _ => false) f := by
  subst hn
  refine ⟨?_, rfl, by omega, fun j p hp => by simp at hp, rfl⟩
  show st - 1 = st + UInt32.ofNat 0 - 1
  simp
theorem ofNat_add (a b : Nat) : UInt32.ofNat (a + b) = UInt32.ofNat a + UInt32.ofNat b := by simp
theorem Ar.send {i : Nat} {c : Ck} {bd : List UInt8} (h : Ar st zs i 0 (Q0 fun _ => false) f) (hi : i < 30) (hc : c = { kind := 64, mid := UInt32.ofNat i }) (hb : bd.length = 1 + (kAt zs i).toNat) :
    Ar st zs (i + 1) 0 (Q0 fun _ => false) (f.send i 0 0 c bd 0) := by
  have hl := h.len
  have hn : f.next = st + UInt32.ofNat i := by
    have e : UInt32.ofNat ((f.ps.length : Int) % 4294967296).toNat = UInt32.ofNat i := by congr 1; omega
    show f.mark + UInt32.ofNat ((f.ps.length : Int) % 4294967296).toNat + 1 = _
    rw [e, h.mark, show UInt32.ofNat 0 = 0 from rfl, UInt32.add_zero, UInt32.add_assoc, UInt32.add_comm (UInt32.ofNat i) 1, ← UInt32.add_assoc, UInt32.sub_add_cancel]
  refine ⟨h.mark, by simp only [Fm.send, List.length_append, List.length_singleton]; omega, by omega, fun j p hp => ?_, h.gone⟩
  simp only [Fm.send] at hp
  rw [List.getElem?_append] at hp
  split at hp
  · exact h.pc j p hp
  · rename_i hj
    have hj0 : j - f.ps.length = 0 := by
      rcases Nat.eq_zero_or_pos (j - f.ps.length) with h' | h'
      · exact h'
      · rw [List.getElem?_eq_none (by simp; omega)] at hp; cases hp
    rw [hj0] at hp
    simp only [List.getElem?_cons_zero, Option.some.injEq] at hp
    subst hp
    have hji : 0 + j = i := by omega
    rw [hji]
    subst hc
    refine ⟨⟨hn, rfl, hb, rfl, ⟨by simp, by simp⟩, rngN (by omega)⟩, ?_⟩
    exact ⟨rfl, rfl⟩
/-! ### Ack -/
theorem arrive_get (now : UInt32) (s : Ak) (i j : Nat) : (s.arrive now i).ps[j]? = (s.ps[j]?).map fun p => if j = i then p.came else p := by
  unfold Ak.arrive
  cases hp : s.ps[i]? with
  | none =>
    by_cases hj : j = i
    · subst hj; simp [hp]
    · simp [hj]
  | some p =>
    by_cases hh : p.how = 2
    · simp only [hh, if_true]
      by_cases hj : j = i
      · subst hj; simp [hp, Piece.came, ← hh]
      · simp [hj]
    · simp only [hh, if_false, Ak.arr]
      rw [List.getElem?_set]
      by_cases hj : j = i
      · subst hj
        rw [if_pos rfl, if_pos (List.getElem?_eq_some_iff.1 hp).1, hp]; simp
      · rw [if_neg (fun e => hj e.symm)]; simp [hj]
theorem run_get (now : UInt32) : ∀ (k a : Nat) (s : Ak) (j : Nat), (Ak.run now a k s).ps[j]? = (s.ps[j]?).map fun p => if a ≤ j ∧ j < a + k then p.came else p
  | 0, a, s, j => by
    have : ¬ (a ≤ j ∧ j < a + 0) := by omega
    simp only [Ak.run, this, if_false]; cases s.ps[j]? <;> rfl
  | k + 1, a, s, j => by
    show (Ak.run now (a + 1) k (s.arrive now a)).ps[j]? = _
    rw [run_get now k (a + 1), arrive_get, Option.map_map]
    congr 1
    funext p
    simp only [Function.comp]
    by_cases h1 : j = a
    · have h2 : ¬ (a + 1 ≤ j ∧ j < a + 1 + k) := by omega
      have h3 : a ≤ j ∧ j < a + (k + 1) := by omega
      rw [if_pos h1, if_neg h2, if_pos h3]
    · rw [if_neg h1]
      by_cases h2 : a + 1 ≤ j ∧ j < a + 1 + k
      · rw [if_pos h2, if_pos (by omega)]
      · rw [if_neg h2, if_neg (by omega)]
theorem gaps_get (now : UInt32) (m : Nat) : ∀ (gs : List (UInt16 × UInt16)) (s : Ak) (j : Nat), (∀ g ∈ gs, g.1.toNat ≤ g.2.toNat ∧ 2 ≤ g.1.toNat) → (Ak.gaps now m gs s).ps[j]? = (s.ps[j]?).map fun p => if ∃ g ∈ gs, m + g.1.toNat ≤ j + 1 ∧ j + 1 ≤ m + g.2.toNat then p.came else p
  | [], s, j, _ => by simp [Ak.gaps]
  | g :: gs, s, j, hg => by
    have h0 := hg g (by simp)
    show (Ak.gaps now m gs _).ps[j]? = _
    rw [gaps_get now m gs _ j (fun x hx => hg x (by simp [hx])), run_get, Option.map_map]
    congr 1
    funext p
    simp only [Function.comp]
    by_cases h1 : m + g.1.toNat - 1 ≤ j ∧ j < m + g.1.toNat - 1 + (g.2.toNat + 1 - g.1.toNat)
    · have h3 : ∃ x ∈ g :: gs, m + x.1.toNat ≤ j + 1 ∧ j + 1 ≤ m + x.2.toNat := ⟨g, by simp, by omega⟩
      rw [if_pos h1, if_pos h3]; split <;> rfl
    · rw [if_neg h1]
      have e : (∃ x ∈ g :: gs, m + x.1.toNat ≤ j + 1 ∧ j + 1 ≤ m + x.2.toNat) ↔ ∃ x ∈ gs, m + x.1.toNat ≤ j + 1 ∧ j + 1 ≤ m + x.2.toNat := by
        constructor
        · rintro ⟨x, hx, h2⟩
          rcases List.mem_cons.1 hx with rfl | hx
          · exact absurd (by omega) h1
          · exact ⟨x, hx, h2⟩
        · rintro ⟨x, hx, h2⟩; exact ⟨x, by simp [hx], h2⟩
      simp only [e]
theorem curAt_get' (g : Piece → Piece) (k : Nat) (ps : List Piece) (i : Nat) : (curAt g k ps)[i]? = (ps[i]?).map fun p => if i < k then g p else p := by
  unfold curAt
  by_cases hi : i < k
  · by_cases h2 : i < ps.length
    · rw [List.getElem?_append_left (by simp; omega)]
      simp [hi]
    · rw [List.getElem?_eq_none (by simp; omega), List.getElem?_eq_none (by omega)]; rfl
  · by_cases h2 : i < ps.length
    · rw [List.getElem?_append_right (by simp; omega)]
      simp only [List.length_map, List.length_take, List.getElem?_drop, hi, if_false]
      rw [show k + (i - min k ps.length) = i by omega]; simp
    · rw [List.getElem?_eq_none (by simp; omega), List.getElem?_eq_none (by omega)]; rfl
/-- the gaps of what has come behind u: j numbers have been looked at -/
structure Gi (h : Nat → Bool) (u j : Nat) (gs : List (Nat × Nat)) : Prop where
  apart : gs.Pairwise fun a b => a.2 + 2 ≤ b.1
  each : ∀ g ∈ gs, 2 ≤ g.1 ∧ g.1 ≤ g.2 ∧ g.2 ≤ j + 1
  all : ∀ x, (∃ g ∈ gs, g.1 ≤ x ∧ x ≤ g.2) ↔ (2 ≤ x ∧ x ≤ j + 1 ∧ h (u + x - 1) = true)
theorem Gi.nil {h : Nat → Bool} {u : Nat} : Gi h u 0 [] := ⟨List.Pairwise.nil, fun g hg => (List.not_mem_nil hg).elim, fun x => by simp; omega⟩
theorem Gi.no {h : Nat → Bool} {u j : Nat} {gs : List (Nat × Nat)} (g : Gi h u j gs) (hn : h (u + 1 + j) = false) : Gi h u (j + 1) gs := by
  refine ⟨g.apart, fun x hx => by have := g.each x hx; omega, fun x => ?_⟩
  rw [g.all]
  constructor
  · rintro ⟨h1, h2, h3⟩; exact ⟨h1, by omega, h3⟩
  · rintro ⟨h1, h2, h3⟩
    by_cases hx : x = j + 2
    · subst hx
      rw [show u + (j + 2) - 1 = u + 1 + j by omega, hn] at h3; cases h3
    · exact ⟨h1, by omega, h3⟩
theorem Gi.new {h : Nat → Bool} {u j : Nat} {gs : List (Nat × Nat)} (g : Gi h u j gs) (hy : h (u + 1 + j) = true) (hl : ∀ x ∈ gs, x.2 ≤ j) : Gi h u (j + 1) (gs ++ [(j + 2, j + 2)]) := by
  refine ⟨?_, fun x hx => ?_, fun x => ?_⟩
  · rw [List.pairwise_append]
    exact ⟨g.apart, by simp, fun a ha b hb => by simp only [List.mem_singleton] at hb; subst hb; have := hl a ha; show a.2 + 2 ≤ j + 2; omega⟩
  · rcases List.mem_append.1 hx with h' | h'
    · have := g.each x h'; omega
    · simp only [List.mem_singleton] at h'; subst h'; show 2 ≤ j + 2 ∧ j + 2 ≤ j + 2 ∧ j + 2 ≤ j + 1 + 1; omega
  · have e : (∃ y ∈ gs ++ [(j + 2, j + 2)], y.1 ≤ x ∧ x ≤ y.2) ↔ (∃ y ∈ gs, y.1 ≤ x ∧ x ≤ y.2) ∨ x = j + 2 := by
      simp only [List.mem_append, List.mem_singleton]
      constructor
      · rintro ⟨y, hy | rfl, h2⟩
        · exact .inl ⟨y, hy, h2⟩
        · right; simp only at h2; omega
      · rintro (⟨y, hy, h2⟩ | rfl)
        · exact ⟨y, .inl hy, h2⟩
        · exact ⟨_, .inr rfl, by simp⟩
    rw [e, g.all]
    constructor
    · rintro (⟨h1, h2, h3⟩ | rfl)
      · exact ⟨h1, by omega, h3⟩
      · exact ⟨by omega, by omega, by rw [show u + (j + 2) - 1 = u + 1 + j by omega]; exact hy⟩
    · rintro ⟨h1, h2, h3⟩
      by_cases hx : x = j + 2
      · exact .inr hx
      · exact .inl ⟨h1, by omega, h3⟩
theorem Gi.more {h : Nat → Bool} {u j a : Nat} {gs : List (Nat × Nat)} (g : Gi h u j (gs ++ [(a, j + 1)])) (hy : h (u + 1 + j) = true) : Gi h u (j + 1) (gs ++ [(a, j + 2)]) := by
  have hap := List.pairwise_append.1 g.apart
  refine ⟨?_, fun x hx => ?_, fun x => ?_⟩
  · rw [List.pairwise_append]
    exact ⟨hap.1, by simp, fun b hb c hc => by simp only [List.mem_singleton] at hc; subst hc; exact hap.2.2 b hb (a, j + 1) (by simp)⟩
  · rcases List.mem_append.1 hx with h' | h'
    · have := g.each x (by simp [h']); omega
    · simp only [List.mem_singleton] at h'; subst h'
      have := g.each (a, j + 1) (by simp); simp only at this ⊢; omega
  · have ha := g.each (a, j + 1) (by simp)
    have e : (∃ y ∈ gs ++ [(a, j + 2)], y.1 ≤ x ∧ x ≤ y.2) ↔ (∃ y ∈ gs ++ [(a, j + 1)], y.1 ≤ x ∧ x ≤ y.2) ∨ x = j + 2 := by
      simp only [List.mem_append, List.mem_singleton]
      constructor
      · rintro ⟨y, hy | rfl, h2⟩
        · exact .inl ⟨y, .inl hy, h2⟩
        · simp only at h2
          by_cases hx : x = j + 2
          · exact .inr hx
          · exact .inl ⟨_, .inr rfl, by simp only; omega⟩
      · rintro (⟨y, hy | rfl, h2⟩ | rfl)
        · exact ⟨y, .inl hy, h2⟩
        · exact ⟨_, .inr rfl, by simp only at h2 ⊢; omega⟩
        · exact ⟨_, .inr rfl, by simp only at ha ⊢; omega⟩
    rw [e, g.all]
    constructor
    · rintro (⟨h1, h2, h3⟩ | rfl)
      · exact ⟨h1, by omega, h3⟩
      · exact ⟨by omega, by omega, by rw [show u + (j + 2) - 1 = u + 1 + j by omega]; exact hy⟩
    · rintro ⟨h1, h2, h3⟩
      by_cases hx : x = j + 2
      · exact .inr hx
      · exact .inl ⟨h1, by omega, h3⟩
abbrev g16 (g : Nat × Nat) : UInt16 × UInt16 := (UInt16.ofNat g.1, UInt16.ofNat g.2)
theorem g16_nat {h : Nat → Bool} {u j : Nat} {gs : List (Nat × Nat)} (g : Gi h u j gs) (hj : j ≤ 30) {x : Nat × Nat} (hx : x ∈ gs) : (g16 x).1.toNat = x.1 ∧ (g16 x).2.toNat = x.2 := by
  have := g.each x hx
  exact ⟨UInt16.toNat_ofNat_of_lt' (by show x.1 < 65536; omega), UInt16.toNat_ofNat_of_lt' (by show x.2 < 65536; omega)⟩
theorem badGs_ok {tsn last : UInt32} : ∀ {gs : List (UInt16 × UInt16)} {a : Nat}, gs.Pairwise (fun x y => x.2.toNat + 2 ≤ y.1.toNat) → (∀ g ∈ gs, 2 ≤ g.1.toNat ∧ g.1.toNat ≤ g.2.toNat ∧ g.2.toNat ≤ (dist tsn last).toNat) → (∀ g ∈ gs, a = 0 ∨ a + 2 ≤ g.1.toNat) → badGs tsn last gs a = false
  | [], _, _, _, _ => rfl
  | g :: gs, a, hp, he, ha => by
    have h0 := he g (by simp)
    have h1 := ha g (by simp)
    have hc : ¬ (((g.1.toNat : Int) < (if (a : Int) + 2 > 2 then (a : Int) + 2 else 2) ∨ g.2 < g.1) ∨ dist tsn last < g.2.toUInt32) := by
      rintro ((h | h) | h)
      · split at h <;> omega
      · rw [UInt16.lt_iff_toNat_lt] at h; omega
      · rw [UInt32.lt_iff_toNat_lt, UInt16.toNat_toUInt32] at h; omega
    simp only [badGs]
    rw [if_neg hc]
    rw [List.pairwise_cons] at hp
    exact badGs_ok hp.2 (fun x hx => he x (by simp [hx])) fun x hx => .inr (hp.1 x hx)
theorem dist_add (a : UInt32) {k : Nat} (hk : k < 4294967296) : (dist a (a + UInt32.ofNat k)).toNat = k := by
  show (a + UInt32.ofNat k - a).toNat = k
  rw [UInt32.add_comm, UInt32.add_sub_cancel, UInt32.toNat_ofNat_of_lt' hk]
theorem mark_up (up u : Nat) (h : up ≤ u) : st + UInt32.ofNat u - 1 = (st + UInt32.ofNat up - 1) + UInt32.ofNat (u - up) := by
  have e : u = up + (u - up) := by omega
  rw [e, ofNat_add, show up + (u - up) - up = u - up by omega, ← UInt32.add_assoc]
  generalize st + UInt32.ofNat up = x; generalize UInt32.ofNat (u - up) = y
  rw [UInt32.sub_eq_add_neg, UInt32.sub_eq_add_neg, UInt32.add_assoc, UInt32.add_assoc, UInt32.add_comm y]
theorem dist_last (hf : Ar st zs n up Q f) : f.next - 1 = f.mark + UInt32.ofNat (n - up) := by
  have hl := hf.len; have hs := hf.small
  have e : UInt32.ofNat ((f.ps.length : Int) % 4294967296).toNat = UInt32.ofNat (n - up) := by congr 1; omega
  show f.mark + UInt32.ofNat ((f.ps.length : Int) % 4294967296).toNat + 1 - 1 = _
  rw [e, UInt32.add_sub_cancel]
theorem Ar.bad {h : Nat → Bool} {u : Nat} {gs : List (Nat × Nat)} (hf : Ar st zs n up Q f) (h1 : up ≤ u) (h2 : u ≤ n) (g : Gi h u (n - u - 1) gs) (hun : u = n → gs = []) : f.bad 3 (st + UInt32.ofNat u - 1) (gs.map g16) = false := by
  have hl := hf.len; have hs := hf.small
  have hlast := dist_last hf
  have hm := mark_up (st := st) up u h1
  rw [← hf.mark] at hm
  have hd1 : (dist f.mark (st + UInt32.ofNat u - 1)).toNat = u - up := by rw [hm]; exact dist_add _ (by omega)
  have hd2 : (dist f.mark (f.next - 1)).toNat = n - up := by rw [hlast]; exact dist_add _ (by omega)
  have hin : inR (st + UInt32.ofNat u - 1) f.mark (f.next - 1) = true := by
    simp only [inR, decide_eq_true_eq, UInt32.le_iff_toNat_le, hd1, hd2]; omega
  have hd3 : (dist (st + UInt32.ofNat u - 1) (f.next - 1)).toNat = n - u := by
    rw [hm, hlast, show UInt32.ofNat (n - up) = UInt32.ofNat (u - up) + UInt32.ofNat (n - u) by rw [← ofNat_add]; congr 1; omega, ← UInt32.add_assoc]
    exact dist_add _ (by omega)
  unfold Fm.bad
  rw [if_neg (by rw [hin]; simp)]
  have hg := fun x (hx : x ∈ gs) => g16_nat g (by omega) hx
  refine badGs_ok (a := 0) ?_ ?_ (fun _ _ => .inl rfl)
  · rw [List.pairwise_map]
    refine g.apart.imp_of_mem ?_
    intro a b ha hb hab
    rw [(hg a ha).2, (hg b hb).1]; exact hab
  · intro x hx
    obtain ⟨y, hy, rfl⟩ := List.mem_map.1 hx
    have h3 := g.each y hy
    rw [(hg y hy).1, (hg y hy).2, hd3]
    by_cases hn : u = n
    · rw [hun hn] at hy; cases hy
    · omega
theorem missP_keep (p : Piece) : (missP p).c = p.c ∧ (missP p).body = p.body ∧ (missP p).lk = p.lk ∧ (missP p).m = p.m := by
  unfold missP; repeat' split
  all_goals exact ⟨rfl, rfl, rfl, rfl⟩
theorem Ar.ackP {h h' : Nat → Bool} {u : Nat} {gs : List (Nat × Nat)} (hf : Ar st zs n up (Q0 h) f) (hh : ∀ i, h i = true → h' i = true) (h1 : up ≤ u) (h2 : u ≤ n) (hnu : u < n → h' u = false)
    (g : Gi h' u (n - u - 1) gs) (now : UInt32) (t : Nat) : ∀ j p, ((curAt missP t (Ak.gaps now (u - up) (gs.map g16) (Ak.run now 0 (u - up) ⟨f.ps, 0, -1, -1⟩)).ps).drop (u - up))[j]? = some p → PcOk st zs (u + j) p ∧ Q1 h' (u + j) p := by
  intro j p hp
  have hl := hf.len; have hs := hf.small
  have hjt : j ≤ 1000 ∨ 1000 < j := by omega
  rw [List.getElem?_drop, curAt_get', gaps_get _ _ _ _ _ (fun x hx => by
    obtain ⟨y, hy, rfl⟩ := List.mem_map.1 hx
    have h3 := g.each y hy
    have h4 := g16_nat g (by omega) hy
    rw [h4.1, h4.2]; omega), run_get] at hp
  simp only [Option.map_map, Option.map_eq_some_iff, Function.comp] at hp
  obtain ⟨q, hq, rfl⟩ := hp
  have hjn : u - up + j < f.ps.length := (List.getElem?_eq_some_iff.1 hq).1
  obtain ⟨hpc, hq0⟩ := hf.pc _ _ hq
  rw [show up + (u - up + j) = u + j by omega] at hpc hq0
  have hex : (∃ x ∈ gs.map g16, u - up + x.1.toNat ≤ u - up + j + 1 ∧ u - up + j + 1 ≤ u - up + x.2.toNat) ↔ (1 ≤ j ∧ h' (u + j) = true) := by
    have hb := g.all (j + 1)
    rw [show u + (j + 1) - 1 = u + j by omega] at hb
    constructor
    · rintro ⟨x, hx, h3⟩
      obtain ⟨y, hy, rfl⟩ := List.mem_map.1 hx
      have h4 := g16_nat g (by omega) hy
      rw [h4.1, h4.2] at h3
      have h6 : y.1 ≤ j + 1 ∧ j + 1 ≤ y.2 := by clear hb hx hy; omega
      have h5 := hb.1 ⟨y, hy, h6⟩
      exact ⟨Nat.le_of_succ_le_succ h5.1, h5.2.2⟩
    · rintro ⟨h3, h4⟩
      have h8 : 2 ≤ j + 1 ∧ j + 1 ≤ n - u - 1 + 1 := by clear hb; omega
      obtain ⟨y, hy, h5, h6⟩ := hb.2 ⟨h8.1, h8.2, h4⟩
      have h7 := g16_nat g (by omega) hy
      refine ⟨_, List.mem_map.2 ⟨y, hy, rfl⟩, ?_, ?_⟩
      · rw [h7.1]; omega
      · rw [h7.2]; omega
  rw [if_neg (show ¬ (0 ≤ u - up + j ∧ u - up + j < 0 + (u - up)) by omega)]
  by_cases hc : h' (u + j) = true
  · have hj1 : 1 ≤ j := by
      rcases Nat.eq_zero_or_pos j with h0 | h0
      · subst h0
        rw [Nat.add_zero, hnu (by omega)] at hc; cases hc
      · exact h0
    rw [if_pos (hex.2 ⟨hj1, hc⟩)]
    have e : missP q.came = q.came := by simp [missP]
    rw [e, ite_self]
    refine ⟨⟨hpc.tsn, hpc.mid, hpc.body, hpc.lk, hpc.miss, hpc.rng⟩, ?_⟩
    simp only [Q1, hc, if_true]
  · rw [if_neg (fun e => hc (hex.1 e).2)]
    have hn : h (u + j) = false := by
      cases hb : h (u + j)
      · rfl
      · exact absurd (hh _ hb) hc
    have hq1 : q.how = 0 ∧ q.missed = 0 := by simp only [Q0, hn, Bool.false_eq_true, if_false] at hq0; exact hq0
    have hk := missP_keep q
    simp only [Q1, hc, Bool.false_eq_true, if_false]
    by_cases ht : u - up + j < t
    · simp only [ht, if_true]
      have hms : (missP q).missed = 1 ∧ (missP q).how = 0 := by simp [missP, hq1.1, hq1.2]
      exact ⟨⟨hk.1 ▸ hpc.tsn, hk.1 ▸ hpc.mid, hk.2.1 ▸ hpc.body, hk.2.2.1 ▸ hpc.lk, by rw [hms.1]; omega, hk.2.2.2 ▸ hpc.rng⟩, .inl hms.2⟩
    · simp only [ht, if_false]
      exact ⟨hpc, .inl hq1.1⟩
theorem Ar.ack {h h' : Nat → Bool} {u : Nat} {gs : List (Nat × Nat)} (hf : Ar st zs n up (Q0 h) f) (hh : ∀ i, h i = true → h' i = true) (h1 : up ≤ u) (h2 : u ≤ n) (hnu : u < n → h' u = false)
    (g : Gi h' u (n - u - 1) gs) (hun : u = n → gs = []) (now : UInt32) : (f.ack 3 (st + UInt32.ofNat u - 1) (gs.map g16) now).1.bad = false ∧ Ar st zs n u (Q1 h') (f.ack 3 (st + UInt32.ofNat u - 1) (gs.map g16) now).2 := by
  have hl := hf.len; have hs := hf.small
  have hm := mark_up (st := st) up u h1
  rw [← hf.mark] at hm
  have hd1 : (dist f.mark (st + UInt32.ofNat u - 1)).toNat = u - up := by rw [hm]; exact dist_add _ (by omega)
  unfold Fm.ack
  rw [hf.bad h1 h2 g hun]
  simp only [Bool.false_eq_true, if_false, hd1]
  refine ⟨trivial, rfl, ?_, hs, ?_, hf.gone⟩
  · simp only [List.length_drop, curAt_length, gaps_len, run_len]; omega
  · exact hf.ackP hh h1 h2 hnu g now _
theorem Ar.late {h : Nat → Bool} (hf : Ar st zs n up (Q1 h) f) : Ar st zs n up (Q3 h 0) f.late := by
  refine ⟨hf.mark, by simpa using hf.len, hf.small, fun j p hp => ?_, hf.gone⟩
  simp only [Fm.late, List.getElem?_map, Option.map_eq_some_iff] at hp
  obtain ⟨q, hq, rfl⟩ := hp
  obtain ⟨hpc, hq1⟩ := hf.pc j q hq
  have hk : (lateP q).c = q.c ∧ (lateP q).body = q.body ∧ (lateP q).lk = q.lk ∧ (lateP q).m = q.m ∧ (lateP q).missed = q.missed := by unfold lateP; split <;> exact ⟨rfl, rfl, rfl, rfl, rfl⟩
  refine ⟨⟨hk.1 ▸ hpc.tsn, hk.1 ▸ hpc.mid, hk.2.1 ▸ hpc.body, hk.2.2.1 ▸ hpc.lk, hk.2.2.2.2 ▸ hpc.miss, hk.2.2.2.1 ▸ hpc.rng⟩, ?_⟩
  have hlt : ¬ up + j < 0 := by omega
  by_cases hc : h (up + j) = true
  · simp only [Q1, Q3, hc, if_true] at hq1 ⊢
    simp [lateP, hq1]
  · simp only [Q1, Q3, hc, hlt, Bool.false_eq_true, if_false] at hq1 ⊢
    rcases hq1 with h0 | h0 <;> simp [lateP, h0]
theorem Ar.skip {h : Nat → Bool} {k : Nat} (hf : Ar st zs n up (Q3 h k) f) (hk : h k = true) : Ar st zs n up (Q3 h (k + 1)) f := hf.weaken fun i p _ hq => by
  by_cases hc : h i = true
  · simp only [Q3, hc, if_true] at hq ⊢; exact hq
  · have hi : i ≠ k := fun e => hc (e ▸ hk)
    have e : (i < k + 1) = (i < k) := by apply propext; omega
    simp only [Q3, hc, e, Bool.false_eq_true, if_false] at hq ⊢; exact hq
theorem Ar.again {h : Nat → Bool} {k : Nat} (hf : Ar st zs n up (Q3 h k) f) (hk : h k = false) (h1 : up ≤ k) (h2 : k < n) (now : UInt32) : ∃ p, (f.again now).1 = some p ∧ PcOk st zs k p ∧ Ar st zs n up (Q3 h (k + 1)) (f.again now).2 := by
  have hl := hf.len
  have hlt : k - up < f.ps.length := by omega
  obtain ⟨q, hq⟩ : ∃ q, f.ps[k - up]? = some q := ⟨_, List.getElem?_eq_getElem hlt⟩
  obtain ⟨hpc, hq1⟩ := hf.pc _ _ hq
  rw [show up + (k - up) = k by omega] at hpc hq1
  have hlost : q.how = 1 := by simpa [Q3, hk] using hq1
  have hsplit : f.ps = f.ps.take (k - up) ++ q :: f.ps.drop (k - up + 1) := by
    have : f.ps[k - up] = q := Option.some.inj (by rw [← hq]; simp [hlt])
    rw [← this]; simp
  have hA : ∀ a ∈ f.ps.take (k - up), a.how ≠ 1 := fun a ha => by
    obtain ⟨j, hj⟩ := List.mem_iff_getElem?.1 ha
    rw [List.getElem?_take] at hj
    split at hj
    · rename_i hjk
      have h3 := (hf.pc j a hj).2
      have h4 : up + j < k := by omega
      simp only [Q3, h4, if_true] at h3
      split at h3 <;> omega
    · cases hj
  have hsp : ¬ q.spent := by rintro ⟨h3, _⟩; rw [hpc.lk] at h3; cases h3
  rw [again_hit hsplit hA hlost hsp]
  have hps : f.ps.take (k - up) ++ q.anew now :: f.ps.drop (k - up + 1) = f.ps.set (k - up) (q.anew now) := by
    rw [List.set_eq_take_append_cons_drop, if_pos hlt]
  refine ⟨_, rfl, ⟨hpc.tsn, hpc.mid, hpc.body, hpc.lk, by simp, hpc.rng⟩, hf.mark, by simp only [hps, List.length_set]; exact hl, hf.small, fun j p hp => ?_, hf.gone⟩
  simp only [hps] at hp
  rw [List.getElem?_set] at hp
  by_cases hj : k - up = j
  · subst hj
    rw [if_pos rfl, if_pos hlt] at hp
    simp only [Option.some.injEq] at hp
    subst hp
    rw [show up + (k - up) = k by omega]
    refine ⟨⟨hpc.tsn, hpc.mid, hpc.body, hpc.lk, by simp, hpc.rng⟩, ?_⟩
    simp [Q3, hk]
  · rw [if_neg hj] at hp
    obtain ⟨h3, h4⟩ := hf.pc j p hp
    refine ⟨h3, ?_⟩
    have e : (up + j < k + 1) = (up + j < k) := by apply propext; omega
    simp only [Q3, e] at h4 ⊢; exact h4
theorem Ar.none {h : Nat → Bool} (hf : Ar st zs n up (Q3 h n) f) (now : UInt32) : f.again now = (none, f) ∧ Ar st zs n up (Q0 h) f := by
  have hl := hf.len
  have hA : ∀ a ∈ f.ps, a.how ≠ 1 := fun a ha => by
    obtain ⟨j, hj⟩ := List.mem_iff_getElem?.1 ha
    have hjl := (List.getElem?_eq_some_iff.1 hj).1
    have h3 := (hf.pc j a hj).2
    have h4 : up + j < n := by omega
    simp only [Q3, h4, if_true] at h3
    split at h3 <;> omega
  constructor
  · have := againK_skips (now := now) (f := f) (A := f.ps) (B := []) (by simp) hA f.ps.length 0 (by omega)
    show Fm.againK now f.ps.length 0 f = _
    rw [Nat.sub_zero] at this
    rw [this, againK_end (Nat.le_refl _)]
  · exact hf.weaken fun i p hi hq => by simpa only [Q3, hi, if_true, Q0] using hq
theorem Ar.point {h : Nat → Bool} (hf : Ar st zs n up (Q0 h) f) (inter : Bool) : f.point inter = Option.none := by
  have : goneN f.ps = 0 := goneN_zero fun q hq => by
    obtain ⟨j, hj⟩ := List.mem_iff_getElem?.1 hq
    have h3 := (hf.pc j q hj).2
    simp only [Q0] at h3
    split at h3 <;> omega
  simp [Fm.point, this]
theorem Ar.expire (hf : Ar st zs n up Q f) (now : UInt32) : f.expireG now = f := expire_none fun q hq => by
  obtain ⟨j, hj⟩ := List.mem_iff_getElem?.1 hq
  rw [(hf.pc j q hj).1.lk]; decide
theorem Ar.expired (hf : Ar st zs n up Q f) (now : UInt32) : (f.expire now).1 = [] := by
  simp only [Fm.expire, hf.expire, hf.gone, sortI_nil]
/-! ### memory -/
/-- what has arrived, as cells -/
abbrev hasC (h : Nat → Bool) : List Value := (List.range 31).map fun i => .bool (h i)
theorem hasC_get {h : Nat → Bool} {i : Nat} (hi : i < 31) : (hasC h)[i]? = some (.bool (h i)) := by simp [hi]
def hasSet (h : Nat → Bool) (q : Nat) : Nat → Bool := fun i => if i = q then true else h i
theorem hasC_set {h : Nat → Bool} {q : Nat} : (hasC h).set q (.bool true) = hasC (hasSet h q) := by
  apply List.ext_getElem?
  intro i
  rw [List.getElem?_set]
  by_cases hi : i < 31
  · by_cases hq : q = i
    · subst hq; simp [hasSet, hi]
    · rw [if_neg hq, hasC_get hi, hasC_get hi]; simp only [hasSet]; rw [if_neg (fun e => hq e.symm)]
  · have h1 : (hasC h)[i]? = Option.none := by simp; omega
    have h2 : (hasC (hasSet h q))[i]? = Option.none := by simp; omega
    rw [h1, h2]; split
    · rw [if_neg (by simp; omega)]
    · rfl
theorem hasSet_of {h : Nat → Bool} {q i : Nat} (hi : h i = true) : hasSet h q i = true := by unfold hasSet; split <;> simp [hi]
theorem Gi.zero {h : Nat → Bool} {u : Nat} {gs : List (Nat × Nat)} (g : Gi h u 0 gs) : gs = [] := by
  cases gs with
  | nil => rfl
  | cons x l => have := g.each x (by simp); omega
theorem list_last {α : Type} (l : List α) : l = [] ∨ ∃ xs a, l = xs ++ [a] := by
  rcases List.eq_nil_or_concat l with h | ⟨xs, a, h⟩
  · exact .inl h
  · exact .inr ⟨xs, a, by simpa using h⟩
theorem Gi.low {h : Nat → Bool} {u j a b : Nat} {gs : List (Nat × Nat)} (g : Gi h u j (gs ++ [(a, b)])) (hb : b ≠ j + 1) : ∀ x ∈ gs ++ [(a, b)], x.2 ≤ j := fun x hx => by
  have hap := List.pairwise_append.1 g.apart
  have h1 := g.each (a, b) (by simp)
  rcases List.mem_append.1 hx with h' | h'
  · have := hap.2.2 x h' (a, b) (by simp)
    simp only at this h1; omega
  · simp only [List.mem_singleton] at h'; subst h'; simp only at h1 ⊢; omega
theorem gpc_app (xs ys : List (UInt16 × UInt16)) : gpc (xs ++ ys) = gpc xs ++ gpc ys := by simp [gpc]
theorem gpc_last {gs : List (Nat × Nat)} {a b : Nat} : (gpc ((gs ++ [(a, b)]).map g16))[((((gs ++ [(a, b)]).map g16).length : Int) - 1).toNat * 2 + 1]? = some (vU16 (UInt16.ofNat b)) := by
  rw [List.map_append, gpc_app, List.getElem?_append_right (by rw [gpc_length]; simp), gpc_length]
  rw [show ((((gs.map g16 ++ [(a, b)].map g16).length : Nat) : Int) - 1).toNat * 2 + 1 - (gs.map g16).length * 2 = 1 by simp]
  rfl
theorem gpc_put {gs : List (Nat × Nat)} {a b d : Nat} : (gpc ((gs ++ [(a, b)]).map g16)).set (((((gs ++ [(a, b)]).map g16).length : Int) - 1).toNat * 2 + 1) (vU16 (UInt16.ofNat d)) = gpc ((gs ++ [(a, d)]).map g16) := by
  rw [List.map_append, gpc_app, List.set_append_right _ _ (by rw [gpc_length]; simp), gpc_length]
  rw [show ((((gs.map g16 ++ [(a, b)].map g16).length : Nat) : Int) - 1).toNat * 2 + 1 - (gs.map g16).length * 2 = 1 by simp]
  rw [List.map_append, gpc_app]; rfl
theorem cast16 {k : Nat} (hk : k < 60000) : UInt16.ofNat (((k : Nat) : Int) % 65536).toNat = UInt16.ofNat k := by congr 1; omega
theorem Gi.count {h : Nat → Bool} {u : Nat} : ∀ {j : Nat} {gs : List (Nat × Nat)}, Gi h u j gs → gs.length ≤ j
  | j, gs, g => by
    have key : ∀ (l : List (Nat × Nat)) (m : Nat), l.Pairwise (fun a b => a.2 + 2 ≤ b.1) → (∀ x ∈ l, m < x.1 ∧ x.1 ≤ x.2 ∧ x.2 ≤ j + 1) → m + l.length ≤ j + 1 ∨ l = [] := fun l => by
      induction l with
      | nil => intro m _ _; exact .inr rfl
      | cons x l ih =>
        intro m hp hx
        rw [List.pairwise_cons] at hp
        have h0 := hx x (by simp)
        rcases ih (m + 1) hp.2 (fun y hy => by have h1 := hp.1 y hy; have h2 := hx y (by simp [hy]); omega) with h | h
        · left; simp; omega
        · subst h; left; simp; omega
    rcases key gs 1 g.apart (fun x hx => by have := g.each x hx; omega) with h | h
    · omega
    · subst h; simp
end Go.Fl
