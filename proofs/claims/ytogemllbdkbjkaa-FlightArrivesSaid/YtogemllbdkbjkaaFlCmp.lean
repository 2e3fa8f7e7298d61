/- The order of skips, as the library calls it. -/
import Derived.Shelf.SlSortCmp.InsertionK
import Derived.Test.YtogemllbdkbjkaaR1Facts
import Derived.Test.YtogemllbdkbjkaaFlPointF
set_option linter.unusedVariables false
set_option linter.unusedSimpArgs false
namespace Go.Fl
open Go Go.Proofs Go.Shelf Go.RowKit Go.Lib Go.Sort
def cmp16 (a b : UInt16) : Int := if a < b then -1 else if b < a then 1 else 0
theorem nan16 (a : UInt16) (W : World) : Calls Try.prog 79 #[.int .u16 a.toNat] W fun e w' => e = .returned (.bool false) ∧ w' = W := by
  go_enter Try.func79, Try.ntmps79
  go_wp2
  go_ret
  simp
set_option maxHeartbeats 1000000 in
theorem compare16 (a b : UInt16) (W : World) : Calls Try.prog 47 #[.int .u16 a.toNat, .int .u16 b.toNat] W fun e w' => e = .returned (.int .i64 (cmp16 a b)) ∧ w' = W := by
  have hcon := fun (a : UInt16) W' => nan16 a W'
  change ∀ (a : UInt16) W', Calls Try.prog 79 _ _ _ at hcon
  go_enter Try.func47, Try.ntmps47
  go_wp2_with (go_at_call 79; refine (hcon _ _).mono ?_; rintro e w' ⟨rfl, rfl⟩)
  all_goals go_ret
  all_goals refine ⟨?_, rfl⟩
  all_goals simp only [cmp16, UInt16.lt_iff_toNat_lt]
  all_goals simp [*]
def cmpSk (x y : Skip) : Int := if x.stream = y.stream ∧ x.loose ≠ y.loose then (if y.loose then -1 else 1) else cmp16 x.stream y.stream
set_option maxHeartbeats 2000000 in
theorem closure46 (x y : Skip) (W : World) : Calls Try.prog 46 #[.agg #[.int .u16 x.stream.toNat, .bool x.loose, .int .u32 x.mid.toNat], .agg #[.int .u16 y.stream.toNat, .bool y.loose, .int .u32 y.mid.toNat]] W fun e w' => e = .returned (.int .i64 (cmpSk x y)) ∧ ∃ q os', w' = grow (W.drewN q) os' := by
  obtain ⟨xs, xl, xm⟩ := x
  obtain ⟨ys, yl, ym⟩ := y
  have hcon := fun (a b : UInt16) W' => compare16 a b W'
  change ∀ (a b : UInt16) W', Calls Try.prog 47 _ _ _ at hcon
  go_enter Try.func46, Try.ntmps46
  go_wp2_with (go_at_call 47; refine (hcon _ _ _).mono ?_; rintro e w' ⟨rfl, rfl⟩)
  all_goals go_ret
  all_goals refine ⟨?_, 0, _, by rw [alloc_eq_grow, alloc_eq_grow, grow_grow]; rfl⟩
  all_goals have hnat : ∀ a b : Nat, ((a : Int) = (b : Int)) ↔ a = b := fun a b => by omega
  all_goals simp_all [cmpSk, ← UInt16.toNat_inj]
  all_goals rw [show xs = ys from UInt16.toNat_inj.1 (by assumption)]
theorem cmpSk_lt (x y : Skip) : decide (cmpSk x y < 0) = (skLe x y && !skLe y x) := by
  obtain ⟨xs, xl, xm⟩ := x
  obtain ⟨ys, yl, ym⟩ := y
  simp only [cmpSk, cmp16, skLe, UInt16.lt_iff_toNat_lt, ← UInt16.toNat_inj]
  rcases Nat.lt_trichotomy xs.toNat ys.toNat with h | h | h
  · have h1 : ¬ ys.toNat < xs.toNat := by omega
    have h2 : ¬ xs.toNat = ys.toNat := by omega
    have h3 : ¬ ys.toNat = xs.toNat := by omega
    simp [h, h1, h2, h3]
  · cases xl <;> cases yl <;> simp [h]
  · have h1 : ¬ xs.toNat < ys.toNat := by omega
    have h2 : ¬ xs.toNat = ys.toNat := by omega
    have h3 : ¬ ys.toNat = xs.toNat := by omega
    simp [h, h1, h2, h3]
end Go.Fl
