/- Contracts, printed by a program of mine and proved by Lean. -/
import Derived.Test.YtogemllbdkbjkaaFlSerial
import Derived.Test.YtogemllbdkbjkaaR1Facts
set_option linter.unusedVariables false
set_option linter.unusedSimpArgs false
namespace Go.Fl
open Go Go.Sl Go.Proofs
set_option maxRecDepth 10000
set_option linter.unusedVariables false
theorem dist_spec (a b : UInt32) : Sl.Spec Try.prog 26 [vU32 a, vU32 b].toArray [] (fun v => lift (v = vU32 (dist a b))) := by
  refine Sl.Spec.of_body (vs := [vU32 a, vU32 b]) Try.func26 Try.ntmps26 (Nat.le_of_ble_eq_true rfl) rfl fun w0 F => ?_
  refine G.seq ?_
  refine G.region ?_
  refine G.yld (by decide) (Yld.assign rfl) ?_
  refine G.done ?_
  refine G.seq ?_
  refine G.region ?_
  refine G.yld (by decide) (Yld.move rfl) ?_
  refine G.yld (by decide) (Yld.move rfl) ?_
  refine G.yld (by decide) (Yld.sub_u32 rfl rfl) ?_
  refine G.yld (by decide) (Yld.assign rfl) ?_
  refine G.done ?_
  refine G.ret ?_
  refine G.ret1 (.inr rfl) Try.results26 (.tmp rfl) ?_
  exact ⟨_, (.lift rfl)⟩
theorem less_spec (a b : UInt32) : Sl.Spec Try.prog 28 [vU32 a, vU32 b].toArray [] (fun v => lift (v = .bool (less a b))) := by
  refine Sl.Spec.of_body (vs := [vU32 a, vU32 b]) Try.func28 Try.ntmps28 (Nat.le_of_ble_eq_true rfl) rfl fun w0 F => ?_
  refine G.seq ?_
  refine G.region ?_
  refine G.yld (by decide) (Yld.assign rfl) ?_
  refine G.done ?_
  refine G.seq ?_
  refine G.region ?_
  refine G.yld (by decide) (Yld.move rfl) ?_
  refine G.yld (by decide) (Yld.move rfl) ?_
  refine G.yld (by decide) (Yld.sub_u32 rfl rfl) ?_
  refine G.yld (by decide) (Yld.conv rfl (fun w => run_conv_int Try.runUnderlying22 Try.runUnderlying21 w)) ?_
  refine G.yld (by decide) (Yld.bin (r := .bool (less a b)) rfl rfl (fun w => less_run a b w)) ?_
  refine G.yld (by decide) (Yld.assign rfl) ?_
  refine G.done ?_
  refine G.ret ?_
  refine G.ret1 (.inr rfl) Try.results28 (.tmp rfl) ?_
  exact ⟨_, (.lift rfl)⟩
theorem lessShort_spec (a b : UInt16) : Sl.Spec Try.prog 86 [vU16 a, vU16 b].toArray [] (fun v => lift (v = .bool (lessShort a b))) := by
  refine Sl.Spec.of_body (vs := [vU16 a, vU16 b]) Try.func86 Try.ntmps86 (Nat.le_of_ble_eq_true rfl) rfl fun w0 F => ?_
  refine G.seq ?_
  refine G.region ?_
  refine G.yld (by decide) (Yld.assign rfl) ?_
  refine G.done ?_
  refine G.seq ?_
  refine G.region ?_
  refine G.yld (by decide) (Yld.move rfl) ?_
  refine G.yld (by decide) (Yld.move rfl) ?_
  refine G.yld (by decide) (Yld.sub_u16 rfl rfl) ?_
  refine G.yld (by decide) (Yld.conv rfl (fun w => run_conv_int Try.runUnderlying30 Try.runUnderlying167 w)) ?_
  refine G.yld (by decide) (Yld.bin (r := .bool (lessShort a b)) rfl rfl (fun w => lessShort_run a b w)) ?_
  refine G.yld (by decide) (Yld.assign rfl) ?_
  refine G.done ?_
  refine G.ret ?_
  refine G.ret1 (.inr rfl) Try.results86 (.tmp rfl) ?_
  exact ⟨_, (.lift rfl)⟩
theorem later_spec (a b : UInt32) : Sl.Spec Try.prog 44 [vU32 a, vU32 b].toArray [] (fun v => lift (v = vU32 (later a b))) := by
  refine Sl.Spec.of_body (vs := [vU32 a, vU32 b]) Try.func44 Try.ntmps44 (Nat.le_of_ble_eq_true rfl) rfl fun w0 F => ?_
  refine G.seq ?_
  refine G.region ?_
  refine G.yld (by decide) (Yld.assign rfl) ?_
  refine G.done ?_
  refine G.seq ?_
  refine G.seq ?_
  refine G.region ?_
  refine G.yld (by decide) (Yld.move rfl) ?_
  refine G.yld (by decide) (Yld.move rfl) ?_
  refine G.opc (by decide) (OpC.call Try.call28 rfl (less_spec _ _) .nil) fun v => ?_
  refine G.lift ?_
  rintro rfl
  refine G.done ?_
  refine G.cond rfl (fun h => ?_) (fun h => ?_)
  · refine G.seq ?_
    refine G.region ?_
    refine G.yld (by decide) (Yld.move rfl) ?_
    refine G.yld (by decide) (Yld.assign rfl) ?_
    refine G.done ?_
    refine G.ret ?_
    refine G.ret1 (.inr rfl) Try.results44 (.tmp rfl) ?_
    exact ⟨_, (.lift (by simp [later, h]))⟩
  · refine G.skip ?_
    refine G.seq ?_
    refine G.region ?_
    refine G.yld (by decide) (Yld.move rfl) ?_
    refine G.yld (by decide) (Yld.assign rfl) ?_
    refine G.done ?_
    refine G.ret ?_
    refine G.ret1 (.inr rfl) Try.results44 (.tmp rfl) ?_
    exact ⟨_, (.lift (by simp [later, h]))⟩
theorem in_spec (x lo hi : UInt32) : Sl.Spec Try.prog 80 [vU32 x, vU32 lo, vU32 hi].toArray [] (fun v => lift (v = .bool (inR x lo hi))) := by
  refine Sl.Spec.of_body (vs := [vU32 x, vU32 lo, vU32 hi]) Try.func80 Try.ntmps80 (Nat.le_of_ble_eq_true rfl) rfl fun w0 F => ?_
  refine G.seq ?_
  refine G.region ?_
  refine G.yld (by decide) (Yld.assign rfl) ?_
  refine G.done ?_
  refine G.seq ?_
  refine G.region ?_
  refine G.yld (by decide) (Yld.move rfl) ?_
  refine G.yld (by decide) (Yld.move rfl) ?_
  refine G.opc (by decide) (OpC.call Try.call26 rfl (dist_spec _ _) .nil) fun v => ?_
  refine G.lift ?_
  rintro rfl
  refine G.yld (by decide) (Yld.move rfl) ?_
  refine G.yld (by decide) (Yld.move rfl) ?_
  refine G.opc (by decide) (OpC.call Try.call26 rfl (dist_spec _ _) .nil) fun v => ?_
  refine G.lift ?_
  rintro rfl
  refine G.yld (by decide) (Yld.leq_u32 rfl rfl) ?_
  refine G.yld (by decide) (Yld.assign rfl) ?_
  refine G.done ?_
  refine G.ret ?_
  refine G.ret1 (.inr rfl) Try.results80 (.tmp rfl) ?_
  exact ⟨_, (.lift rfl)⟩
end Go.Fl
