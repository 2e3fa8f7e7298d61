/- What the run of IntakeForwards keeps: few rows, small ends; where the mark stands behind a skip. -/
import Derived.Test.YtogemllbdkbjkaaFlInF
set_option linter.unusedVariables false
set_option linter.unusedSimpArgs false
namespace Go.Fl
open Go Go.Sl
def Small (rows : List Row) : Prop := ∀ r ∈ rows, r.2.toNat ≤ 4096
theorem Small.rAt {rows : List Row} (h : Small rows) (i : Nat) : (rAt rows i).2.toNat ≤ 4096 := by
  unfold Go.Fl.rAt
  rw [List.getD_eq_getElem?_getD]
  cases e : rows[i]? with
  | none => decide
  | some r => exact h r (List.mem_of_getElem? e)
theorem Small.move {s : Sp} (h : Small s.rows) (by_ : UInt32) : Small (s.move by_).rows := fun r hr => by
  simp only [Sp.move, List.mem_map, List.mem_filter, decide_eq_true_eq] at hr
  obtain ⟨q, ⟨hq, hlt⟩, rfl⟩ := hr
  have := h q hq
  have h2 : by_.toNat < q.2.toNat := hlt
  simp only [movR]
  rw [UInt32.toNat_sub_of_le q.2 by_ (by show by_.toNat ≤ q.2.toNat; omega)]
  omega
theorem move_len (s : Sp) (by_ : UInt32) : (s.move by_).rows.length ≤ s.rows.length := by
  simp only [Sp.move, List.length_map]; exact List.length_filter_le _ _
theorem Small.settle {s : Sp} (h : Small s.rows) : Small s.settle.rows := by
  unfold Sp.settle; split
  · exact h.move _
  · exact h
theorem settle_len (s : Sp) : s.settle.rows.length ≤ s.rows.length := by
  unfold Sp.settle; split
  · exact move_len _ _
  · exact Nat.le_refl _
theorem Small.insR {rows : List Row} (h : Small rows) (i : Nat) {d : UInt32} (hd : d.toNat ≤ 4096) : Small (insR rows i (d, d)) := fun r hr => by
  simp only [Go.Fl.insR, List.mem_append, List.mem_cons] at hr
  rcases hr with hr | rfl | hr
  · exact h r (List.mem_of_mem_take hr)
  · exact hd
  · exact h r (List.mem_of_mem_drop hr)
theorem Small.put {rows : List Row} (h : Small rows) (i j : Nat) {r : Row} (hr : r.2.toNat ≤ 4096) : Small ((rows.set i r).eraseIdx j) := fun q hq => by
  rcases List.mem_or_eq_of_mem_set (List.mem_of_mem_eraseIdx hq) with hq | rfl
  · exact h q hq
  · exact hr
theorem put_len (rows : List Row) (i j : Nat) (r : Row) : ((rows.set i r).eraseIdx j).length ≤ rows.length := by
  rw [List.length_eraseIdx]; split <;> simp
theorem Small.addR {rows : List Row} (h : Small rows) (i : Nat) {d : UInt32} (hd : d.toNat ≤ 4096) : Small (addR rows i d) := by
  have h1 : Small (joinR (Go.Fl.insR rows i (d, d)) i d) := by
    unfold joinR; split
    · exact (h.insR i hd).put _ _ ((h.insR i hd).rAt _)
    · exact h.insR i hd
  unfold Go.Fl.addR joinL; split
  · exact h1.put _ _ (h1.rAt _)
  · exact h1
theorem addR_len {rows : List Row} {i : Nat} (hi : i ≤ rows.length) (d : UInt32) : (addR rows i d).length ≤ rows.length + 1 := by
  have h1 : (joinR (insR rows i (d, d)) i d).length ≤ rows.length + 1 := by
    unfold joinR; split
    · exact Nat.le_trans (put_len _ _ _ _) (by rw [insR_length hi]; omega)
    · rw [insR_length hi]; omega
  unfold addR joinL; split
  · exact Nat.le_trans (put_len _ _ _ _) h1
  · exact h1
theorem Small.add {s : Sp} (h : Small s.rows) (t : UInt32) : Small (s.add t).2.rows := by
  unfold Sp.add
  split
  · split
    · exact h
    · split
      · exact h
      · rename_i h1 _
        refine Small.settle (s := ⟨_, _⟩) (h.addR _ ?_)
        have : ¬ (4096 : Nat) < (dist s.mark t).toNat := fun e => h1 e
        omega
  · exact h
theorem add_len (s : Sp) (t : UInt32) : (s.add t).2.rows.length ≤ s.rows.length + 1 := by
  unfold Sp.add
  split
  · split
    · exact Nat.le_succ _
    · split
      · exact Nat.le_succ _
      · exact Nat.le_trans (settle_len _) (addR_len (atS_le _ _) _)
  · exact Nat.le_succ _
theorem back_far (t x : UInt32) (h : x.toNat ≤ 4096) : less (t + x) t = false ∧ t + x - t < 2147483648 := by
  have h1 : (t + x).toNat = (t.toNat + x.toNat) % 4294967296 := UInt32.toNat_add t x
  have h2 : (t - (t + x)).toNat = (4294967296 - (t + x).toNat + t.toNat) % 4294967296 := UInt32.toNat_sub _ _
  have h3 : (t + x - t).toNat = (4294967296 - t.toNat + (t + x).toNat) % 4294967296 := UInt32.toNat_sub _ _
  have h4 := t.toNat_lt
  constructor
  · unfold less; rw [decide_eq_false_iff_not]; omega
  · show (t + x - t).toNat < 2147483648; omega
theorem skip_far {s : Sp} {t : UInt32} (h : less s.mark t = true) (hs : Small s.rows) : less (s.skip t).2.mark t = false ∧ (s.skip t).2.mark - t < 2147483648 := by
  have e : (s.skip t).2 = (s.move (dist s.mark t)).settle := by unfold Sp.skip; rw [if_pos h]
  have em : (s.move (dist s.mark t)).mark = t := by show s.mark + (t - s.mark) = t; rw [UInt32.add_comm, UInt32.sub_add_cancel]
  rw [e]; unfold Sp.settle; split
  · have := back_far t _ ((hs.move (dist s.mark t)).rAt 0)
    show less ((s.move _).mark + _) t = false ∧ (s.move _).mark + _ - t < _
    rw [em]; exact this
  · rw [em]; exact ⟨less_self t, by simp⟩
theorem less_yes {a b : UInt32} (h : less a b = true) : b - a < 2147483648 ∧ b ≠ a := by
  unfold less at h; rw [decide_eq_true_eq] at h
  refine ⟨h.2, fun e => ?_⟩
  subst e; simp at h
theorem less_no {a b : UInt32} (h : less a b = false) (hn : b ≠ a) : ¬ (b - a < 2147483648) := fun h2 => by
  unfold less at h; rw [decide_eq_false_iff_not] at h
  refine h ⟨?_, h2⟩
  have h1 : (b - a).toNat = (4294967296 - a.toNat + b.toNat) % 4294967296 := UInt32.toNat_sub _ _
  have h3 := a.toNat_lt; have h4 := b.toNat_lt
  have : b.toNat ≠ a.toNat := fun e => hn (UInt32.toNat_inj.1 e)
  omega
theorem heldM_one {ms : List Msg} (h : ∀ m ∈ ms, m.body.length = 1) : ∀ k, heldM k ms ≤ k
  | 0 => by simp [heldM]
  | k + 1 => by
    have ih := heldM_one h k
    cases e : ms[k]? with
    | none => 
      have : ms.length ≤ k := by simpa using e
      have e2 : heldM (k + 1) ms = heldM k ms := by simp [heldM, List.take_of_length_le this, List.take_of_length_le (Nat.le_succ_of_le this)]
      omega
    | some m =>
      rw [heldM_succ e, h m (List.mem_of_getElem? e)]; omega
/-- what the run keeps after k bytes -/
structure Kept (k : Nat) (s : Sp) (ms : List Msg) : Prop where
  rows : s.rows.length ≤ min k 40
  small : Small s.rows
  len : ms.length ≤ min k 40
  ones : ∀ m ∈ ms, m.body.length = 1
abbrev ckL (t : UInt32) : Ck := { kind := 64, tsn := t, beg := true, fin := true, loose := true }
theorem Kept.step {k : Nat} {s : Sp} {ms : List Msg} (h : Kept k s ms) (hk : k < 40) (t : UInt32) (a : Option Addr) (c : Nat) (d : UInt8) : Kept (k + 1) (s.add t).2 (msD s ms (ckL t) (msgOf (ckL t) a c [d])) := by
  have h1 := h.rows; have h2 := h.len; have h3 := add_len s t
  refine ⟨by omega, h.small.add t, ?_, ?_⟩
  · unfold msD; split
    · rw [List.length_append, List.length_singleton]; omega
    · omega
  · unfold msD; split
    · intro m hm
      rcases List.mem_append.1 hm with hm | hm
      · exact h.ones m hm
      · rw [List.mem_singleton.1 hm]; rfl
    · exact h.ones
theorem Kept.idle {k : Nat} {s : Sp} {ms : List Msg} (h : Kept k s ms) : Kept (k + 1) s ms :=
  ⟨by have := h.rows; omega, h.small, by have := h.len; omega, h.ones⟩
theorem Kept.skip {k : Nat} {s : Sp} {ms : List Msg} (h : Kept k s ms) (t : UInt32) : Kept k (s.skip t).2 ms := by
  unfold Sp.skip; split
  · refine ⟨Nat.le_trans (Nat.le_trans (settle_len _) (move_len _ _)) h.rows, (h.small.move _).settle, h.len, h.ones⟩
  · exact h
theorem byc_at {l : List UInt8} {i : Nat} {d : UInt8} (h : l[i]? = some d) : (byc l)[i]? = some (vU8 d) := by simp [byc, h]
theorem Kept.held {k : Nat} {s : Sp} {ms : List Msg} (h : Kept k s ms) : heldM ms.length ms + 1 ≤ 131072 := by
  have h1 := heldM_one h.ones ms.length; have h2 := h.len; omega
end Go.Fl
