/- What Ack computes. -/
import Derived.Test.YtogemllbdkbjkaaFlFlightF
import Derived.Test.YtogemllbdkbjkaaSlRange
set_option linter.unusedVariables false
set_option linter.unusedSimpArgs false
namespace Go.Fl
open Go Go.Sl
/-- what a walk over arrivals carries -/
structure Ak where
  ps : List Piece
  bytes : Int
  rtt : Int
  top : Int
abbrev Piece.came (p : Piece) : Piece := { p with how := 2 }
abbrev Ak.arr (s : Ak) (now : UInt32) (i : Nat) (p : Piece) : Ak :=
  ⟨s.ps.set i p.came, if p.isOpen then s.bytes + (p.body.length : Int) else s.bytes, if p.isOpen ∧ p.sent = 1 then ((dist p.at_ now).toNat : Int) else s.rtt, (i : Int)⟩
def Ak.arrive (now : UInt32) (i : Nat) (s : Ak) : Ak := match s.ps[i]? with
  | none => s
  | some p => if p.how = 2 then s else s.arr now i p
/-- k of them, from a on -/
def Ak.run (now : UInt32) : Nat → Nat → Ak → Ak
  | _, 0, s => s
  | a, k + 1, s => Ak.run now (a + 1) k (s.arrive now a)
structure Ak.ok (s : Ak) : Prop where
  low : 0 ≤ s.bytes
  high : s.bytes + 70000 * (s.ps.countP Piece.isOpen : Int) ≤ 70000 * (s.ps.length : Int)
  body : ∀ p ∈ s.ps, p.body.length ≤ 70000
  miss : ∀ p ∈ s.ps, 0 ≤ p.missed ∧ p.missed ≤ 3
  tp : -1 ≤ s.top ∧ s.top < s.ps.length
theorem arr_ok {s : Ak} (h : s.ok) {now : UInt32} {i : Nat} {p : Piece} (hp : s.ps[i]? = some p) (hh : p.how ≠ 2) : (s.arr now i p).ok := by
  obtain ⟨hi, hpe⟩ := List.getElem?_eq_some_iff.1 hp
  have hm := List.mem_of_getElem? hp
  have hb := h.body p hm
  have hc : p.came.isOpen = false := by simp [Piece.isOpen]
  have hcnt := List.countP_set (p := Piece.isOpen) (a := p.came) hi
  rw [hpe, hc] at hcnt
  have hl := h.low
  have hhi := h.high
  refine ⟨?_, ?_, ?_, ?_, ?_⟩
  · show 0 ≤ (if p.isOpen then s.bytes + (p.body.length : Int) else s.bytes)
    split <;> omega
  · show (if p.isOpen then s.bytes + (p.body.length : Int) else s.bytes) + 70000 * ((s.ps.set i p.came).countP Piece.isOpen : Int) ≤ 70000 * ((s.ps.set i p.came).length : Int)
    rw [hcnt, List.length_set]
    by_cases ho : p.isOpen = true
    · have hpos : 0 < s.ps.countP Piece.isOpen := List.countP_pos_iff.2 ⟨p, hm, ho⟩
      simp only [ho, if_true, Bool.false_eq_true, if_false]
      omega
    · simp only [ho, Bool.false_eq_true, if_false]
      simpa using hhi
  · intro q hq
    rcases List.mem_or_eq_of_mem_set hq with h' | h'
    · exact h.body q h'
    · subst h'; exact hb
  · intro q hq
    rcases List.mem_or_eq_of_mem_set hq with h' | h'
    · exact h.miss q h'
    · subst h'; exact h.miss p hm
  · show -1 ≤ (i : Int) ∧ (i : Int) < ((s.ps.set i p.came).length : Int)
    rw [List.length_set]; omega
theorem arrive_eq {s : Ak} {now : UInt32} {i : Nat} {p : Piece} (hp : s.ps[i]? = some p) (h : p.how ≠ 2) : s.arrive now i = s.arr now i p := by simp only [Ak.arrive, hp, if_neg h]
theorem arrive_same {s : Ak} {now : UInt32} {i : Nat} {p : Piece} (hp : s.ps[i]? = some p) (h : p.how = 2) : s.arrive now i = s := by simp only [Ak.arrive, hp, if_pos h]
theorem ok_le {s : Ak} (h : s.ok) : s.bytes ≤ 70000 * (s.ps.length : Int) := by
  have := h.high; omega
theorem arrive_ok {s : Ak} (h : s.ok) (now : UInt32) (i : Nat) : (s.arrive now i).ok := by
  unfold Ak.arrive
  cases hp : s.ps[i]? with
  | none => exact h
  | some p =>
    by_cases hh : p.how = 2
    · simp only [hh, if_true]; exact h
    · simp only [hh, if_false]; exact arr_ok h hp hh
theorem arrive_len (s : Ak) (now : UInt32) (i : Nat) : (s.arrive now i).ps.length = s.ps.length := by
  unfold Ak.arrive
  cases hp : s.ps[i]? with
  | none => rfl
  | some p =>
    by_cases hh : p.how = 2
    · simp only [hh, if_true]
    · simp [hh, Ak.arr]
def Ak.gaps (now : UInt32) (n : Nat) : List (UInt16 × UInt16) → Ak → Ak
  | [], s => s
  | g :: gs, s => Ak.gaps now n gs (Ak.run now (n + g.1.toNat - 1) (g.2.toNat + 1 - g.1.toNat) s)
def badGs (tsn last : UInt32) : List (UInt16 × UInt16) → Int → Bool
  | [], _ => false
  | g :: gs, ahead => if ((g.1.toNat : Int) < (if ahead + 2 > 2 then ahead + 2 else 2) ∨ g.2 < g.1) ∨ dist tsn last < g.2.toUInt32 then true else badGs tsn last gs (g.2.toNat : Int)
def Fm.bad (f : Fm) (kind : UInt8) (tsn : UInt32) (gs : List (UInt16 × UInt16)) : Bool :=
  if kind ≠ 3 ∨ ¬ inR tsn f.mark (f.next - 1) then true else badGs tsn (f.next - 1) gs 0
/-- one that was passed by -/
def missP (p : Piece) : Piece := if p.how ≠ 0 then p else if p.missed + 1 = 3 then { p with missed := 3, how := 1 } else { p with missed := p.missed + 1 }
def lostP (p : Piece) : Bool := decide (p.how = 0 ∧ p.missed + 1 = 3)
/-- bytes, on, lost, rtt, bad -/
structure Acked where
  bytes : Int
  on : Bool
  lost : Bool
  rtt : Int
  bad : Bool
  deriving DecidableEq
def Acked.val (a : Acked) : Value := .agg #[vI a.bytes, .bool a.on, .bool a.lost, vI a.rtt, .bool a.bad]
def Fm.ack (f : Fm) (kind : UInt8) (tsn : UInt32) (gs : List (UInt16 × UInt16)) (now : UInt32) : Acked × Fm :=
  if f.bad kind tsn gs then (⟨0, false, false, -1, true⟩, f)
  else
    let n := (dist f.mark tsn).toNat
    let s := Ak.gaps now n gs (Ak.run now 0 n ⟨f.ps, 0, -1, -1⟩)
    let t := (if (0 : Int) > s.top then 0 else s.top).toNat
    (⟨s.bytes, decide (0 < n), (s.ps.take t).any lostP, s.rtt, false⟩, { f with mark := tsn, ps := (curAt missP t s.ps).drop n })
theorem gpc_at {pre post : List Value} {gs : List (UInt16 × UInt16)} {off k : Nat} {g : UInt16 × UInt16} (hpre : pre.length = off) (hg : gs[k]? = some g) : ((pre ++ gpc gs ++ post).drop (off + ((k : Int)).toNat * 2)).take 2 = [vU16 g.1, vU16 g.2] := by
  have hk : k < gs.length := (List.getElem?_eq_some_iff.1 hg).1
  have hsplit : gs = gs.take k ++ g :: gs.drop (k + 1) := by
    have : gs[k] = g := Option.some.inj (by rw [← hg]; simp [hk])
    rw [← this]; simp
  have hl : (gpc (gs.take k)).length = k * 2 := by rw [gpc_length]; simp; omega
  have e : pre ++ gpc gs ++ post = (pre ++ gpc (gs.take k)) ++ ([vU16 g.1, vU16 g.2] ++ (gpc (gs.drop (k + 1)) ++ post)) := by
    conv => lhs; rw [hsplit]
    simp [gpc]
  rw [e, List.drop_left' (by simp [hl, hpre])]
  rfl
theorem badGs_drop {tsn last : UInt32} {gs : List (UInt16 × UInt16)} {k : Nat} {g : UInt16 × UInt16} (hg : gs[k]? = some g) (a : Int) :
    badGs tsn last (gs.drop k) a = if ((g.1.toNat : Int) < (if a + 2 > 2 then a + 2 else 2) ∨ g.2 < g.1) ∨ dist tsn last < g.2.toUInt32 then true else badGs tsn last (gs.drop (k + 1)) (g.2.toNat : Int) := by
  have hk : k < gs.length := (List.getElem?_eq_some_iff.1 hg).1
  have : gs[k] = g := Option.some.inj (by rw [← hg]; simp [hk])
  rw [List.drop_eq_getElem_cons hk, this]; rfl
theorem start_ok {f : Fm} (hf : f.ok) : Ak.ok ⟨f.ps, 0, -1, -1⟩ := by
  have h1 : f.ps.countP Piece.isOpen ≤ f.ps.length := List.countP_le_length
  exact ⟨by simp, by show (0 : Int) + 70000 * (f.ps.countP Piece.isOpen : Int) ≤ 70000 * (f.ps.length : Int); omega, hf.body, hf.miss, by show (-1 : Int) ≤ -1 ∧ (-1 : Int) < (f.ps.length : Int); omega⟩
theorem run_succ (now : UInt32) : ∀ (k a : Nat) (s : Ak), Ak.run now a (k + 1) s = (Ak.run now a k s).arrive now (a + k)
  | 0, a, s => rfl
  | k + 1, a, s => by
    show Ak.run now (a + 1) (k + 1) (s.arrive now a) = (Ak.run now (a + 1) k (s.arrive now a)).arrive now (a + (k + 1))
    rw [run_succ now k (a + 1) (s.arrive now a), show a + 1 + k = a + (k + 1) by omega]
theorem run_ok {now : UInt32} : ∀ (k a : Nat) {s : Ak}, s.ok → (Ak.run now a k s).ok
  | 0, _, _, h => h
  | k + 1, a, _, h => run_ok k (a + 1) (arrive_ok h now a)
theorem run_len {now : UInt32} : ∀ (k a : Nat) (s : Ak), (Ak.run now a k s).ps.length = s.ps.length
  | 0, _, _ => rfl
  | k + 1, a, s => (run_len k (a + 1) (s.arrive now a)).trans (arrive_len s now a)
theorem gaps_snoc {now : UInt32} {n : Nat} : ∀ (gs : List (UInt16 × UInt16)) (g : UInt16 × UInt16) (s : Ak), Ak.gaps now n (gs ++ [g]) s = Ak.run now (n + g.1.toNat - 1) (g.2.toNat + 1 - g.1.toNat) (Ak.gaps now n gs s)
  | [], _, _ => rfl
  | _ :: gs, g, s => gaps_snoc gs g _
theorem gaps_succ {now : UInt32} {n k : Nat} {gs : List (UInt16 × UInt16)} {g : UInt16 × UInt16} (hg : gs[k]? = some g) (s : Ak) : Ak.gaps now n (gs.take (k + 1)) s = Ak.run now (n + g.1.toNat - 1) (g.2.toNat + 1 - g.1.toNat) (Ak.gaps now n (gs.take k) s) := by
  rw [List.take_add_one, hg]; exact gaps_snoc _ _ _
theorem gaps_ok {now : UInt32} {n : Nat} : ∀ (gs : List (UInt16 × UInt16)) {s : Ak}, s.ok → (Ak.gaps now n gs s).ok
  | [], _, h => h
  | _ :: gs, _, h => gaps_ok gs (run_ok _ _ h)
theorem gaps_len {now : UInt32} {n : Nat} : ∀ (gs : List (UInt16 × UInt16)) (s : Ak), (Ak.gaps now n gs s).ps.length = s.ps.length
  | [], _ => rfl
  | _ :: gs, s => (gaps_len gs _).trans (run_len _ _ s)
theorem badGs_mem {tsn last : UInt32} : ∀ {gs : List (UInt16 × UInt16)} {a : Int}, 0 ≤ a → badGs tsn last gs a = false → ∀ g ∈ gs, 2 ≤ g.1.toNat ∧ g.1.toNat ≤ g.2.toNat ∧ g.2.toNat ≤ (dist tsn last).toNat
  | [], _, _, _, _, h => by cases h
  | g :: gs, a, ha, h, q, hq => by
    by_cases hn : ((g.1.toNat : Int) < (if a + 2 > 2 then a + 2 else 2) ∨ g.2 < g.1) ∨ dist tsn last < g.2.toUInt32
    · simp only [badGs, if_pos hn] at h; cases h
    · simp only [badGs, if_neg hn] at h
      have h1 : ¬ ((g.1.toNat : Int) < (if a + 2 > 2 then a + 2 else 2)) := fun e => hn (.inl (.inl e))
      have h2 : ¬ g.2 < g.1 := fun e => hn (.inl (.inr e))
      have h3 : ¬ dist tsn last < g.2.toUInt32 := fun e => hn (.inr e)
      rw [UInt16.lt_iff_toNat_lt] at h2
      rw [UInt32.lt_iff_toNat_lt, UInt16.toNat_toUInt32] at h3
      rcases List.mem_cons.1 hq with rfl | hq
      · refine ⟨?_, by omega, by omega⟩
        split at h1 <;> omega
      · exact badGs_mem (by omega) h q hq
theorem next_dist {f : Fm} (hf : f.ok) : (dist f.mark (f.next - 1)).toNat = f.ps.length := by
  have hl := hf.len
  have e : f.next - 1 = f.mark + UInt32.ofNat ((f.ps.length : Int) % 4294967296).toNat := by
    show f.mark + _ + 1 - 1 = _
    rw [UInt32.add_sub_cancel]
  rw [e]
  have e2 : dist f.mark (f.mark + UInt32.ofNat ((f.ps.length : Int) % 4294967296).toNat) = UInt32.ofNat ((f.ps.length : Int) % 4294967296).toNat := by
    show f.mark + _ - f.mark = _
    rw [UInt32.add_comm, UInt32.add_sub_cancel]
  rw [e2, UInt32.toNat_ofNat_of_lt' (by show ((f.ps.length : Int) % 4294967296).toNat < 4294967296; omega)]
  omega
theorem good_n {f : Fm} (hf : f.ok) {kind : UInt8} {tsn : UInt32} {gs : List (UInt16 × UInt16)} (h : ¬ f.bad kind tsn gs = true) :
    (dist f.mark tsn).toNat ≤ f.ps.length ∧ ∀ g ∈ gs, 2 ≤ g.1.toNat ∧ g.1.toNat ≤ g.2.toNat ∧ (dist f.mark tsn).toNat + g.2.toNat ≤ f.ps.length := by
  have hnd := next_dist hf
  unfold Fm.bad at h
  split at h
  · exact absurd rfl h
  · rename_i hn
    have h1 : inR tsn f.mark (f.next - 1) = true := by
      cases hc : inR tsn f.mark (f.next - 1)
      · exact absurd (.inr (by rw [hc]; simp)) hn
      · rfl
    simp only [inR, decide_eq_true_eq] at h1
    have h1' := h1
    rw [UInt32.le_iff_toNat_le, hnd] at h1
    have hd : (dist tsn (f.next - 1)).toNat = f.ps.length - (dist f.mark tsn).toNat := by
      have e : dist tsn (f.next - 1) = dist f.mark (f.next - 1) - dist f.mark tsn := by
        show (f.next - 1) - tsn = ((f.next - 1) - f.mark) - (tsn - f.mark)
        generalize f.next - 1 = l
        apply UInt32.toBitVec_inj.1
        simp only [UInt32.toBitVec_sub]
        generalize l.toBitVec = a; generalize tsn.toBitVec = b; generalize f.mark.toBitVec = c
        apply BitVec.eq_of_toNat_eq
        have h1 := a.isLt
        have h2 := b.isLt
        have h3 := c.isLt
        simp only [BitVec.toNat_sub]
        omega
      rw [e, UInt32.toNat_sub_of_le _ _ h1', hnd]
    refine ⟨h1, fun g hg => ?_⟩
    have h2 : badGs tsn (f.next - 1) gs 0 = false := by simpa using h
    have := badGs_mem (Int.le_refl 0) h2 g hg
    rw [hd] at this
    omega
theorem isPs_drop : ∀ {k : Nat} {bs : List Nat} {ps : List Piece}, ∀ r, isPs bs ps r → isPs (bs.drop k) (ps.drop k) r
  | 0, _, _, _, h => h
  | k + 1, [], [], _, h => h
  | k + 1, [], _ :: _, _, h => h.elim
  | k + 1, _ :: _, [], _, h => h.elim
  | k + 1, b :: bs, p :: ps, r, h => isPs_drop (k := k) r (star_right Mono.isPs h)
theorem ptc_drop (bs : List Nat) (k : Nat) : (ptc bs).drop (k * 1) = ptc (bs.drop k) := by simp [ptc]
theorem any_succ {q : Piece → Bool} {ps : List Piece} {k : Nat} {p : Piece} (h : ps[k]? = some p) : (ps.take (k + 1)).any q = ((ps.take k).any q || q p) := by
  rw [List.take_add_one, h]; simp
end Go.Fl
