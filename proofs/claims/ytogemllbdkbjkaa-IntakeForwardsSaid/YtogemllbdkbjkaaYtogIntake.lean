/- For every mark, every list of steps and every last step the law IntakeForwards returns true, and its arguments read as they read; no condition beyond those of the given statement. (The frame follows the kit's templates.) -/
import Derived.Test.YtogemllbdkbjkaaRows
import Derived.WalkKit
import Derived.ProofKit
import Derived.OpenShut
import Derived.ShutString
import Derived.ChangeOld
import Derived.Below
import Derived.Test.YtogemllbdkbjkaaSlRead
import Derived.Test.YtogemllbdkbjkaaFlE5
set_option linter.unusedVariables false
set_option linter.unusedSimpArgs false
namespace Go.Proofs.Ytogemllbdkbjkaa.intakeForwards
open Go.ChangeShapes Go.WideShapes Go.ChangeAt Go.RowKit
set_option linter.unusedVariables false
theorem own : ownKnob Try.prog.godebug = none := by kernel_rfl
theorem laidOut : laidOutB Try.prog = true := by kernel_rfl
set_option maxRecDepth 100000 in
theorem lifted (os : Os) (started : os.Started) (H : Type) (enc : TypeId × Value → H) :
    ReturnsInHanded {} Try.checked os 3 .any (Rows.intakeForwardsSpec.pre6 enc Try.prog Try.f3 Rows.intakeForwardsRow.domain false) (Rows.intakeForwardsSpec.post enc Try.prog Try.f3 false true false false) := by
  refine returnsInHanded_of_change (C := Try.checked) own started (by kernel_rfl) Try.func3
    (ChangeSpec.witness6 (enc := enc) (C := Try.checked) false ⟨#[], #[.int .u32 0, .slice none 0 0, .int .u8 0], []⟩ 8 (by kernel_rfl) (by kernel_rfl) (by kernel_rfl) (by kernel_rfl)) ?_
  intro W base args ds gs before hval0 hW hcnd _
  have hval : ∀ (j : Nat) t v, Try.f3.params[j]? = some t → args[j]? = some v → Value.okWide Try.prog W .any base t v := hval0
  have hW' := hW
  obtain ⟨p, q, hA0, hV, rfl, hfz, hnd⟩ := hW
  have hA : DataW.TrodAll enc Try.prog W 0 (fun _ => true) true Try.f3.params.toList args.toList ds p := hA0
  rw [Try.params3] at hA hval
  obtain ⟨v0, vs0, d0, ds0, p0, q0, hargs, rfl, rfl, h0, r0⟩ := trodAll_cons hA
  obtain ⟨v1, vs1, d1, ds1, p1, q1, rfl, rfl, rfl, h1, r1⟩ := trodAll_cons r0
  obtain ⟨v2, vs2, d2, ds2, p2, q2, rfl, rfl, rfl, h2, r2⟩ := trodAll_cons r1
  obtain ⟨rfl, rfl, rfl⟩ := trodAll_nil r2
  obtain rfl : args = #[v0, v1, v2] := by cases args; simp_all
  obtain ⟨rfl, rfl⟩ := trodVars_none hV
  obtain ⟨a0, rfl, rfl, rfl, w0⟩ := open_int Try.underlying22 (hval 0 22 v0 rfl rfl) h0
  obtain ⟨a1, len1, cap1, rfl⟩ := okWide_slice Try.underlying23 (hval 1 23 v1 rfl rfl)
  have k1 := h1
  have lt1 : ∀ x ∈ p1, x.block < W.heap.size := by obtain ⟨m, hm⟩ := k1; exact DataW.trod_lt m _ _ _ hm
  obtain ⟨l1, hl1, hb1, w1⟩ : ∃ l : List UInt8, l.length = len1 ∧ l.length ≤ 9223372036854775807 ∧ Go.Sl.sl false 1 (.slice a1 len1 cap1) len1 (l.map Go.Sl.vU8) (Go.Sl.old W) := by
    obtain ⟨fuel, hf⟩ := h1
    rcases open_ints Try.underlying23 Try.underlying5 (by kernel_rfl) hf with ⟨hcs, _⟩ | ⟨x, l, c, zs, hcs, _, hl, hm, hz, _, hcell, hwz⟩
    · simp [Value.cells] at hcs
      obtain ⟨rfl, rfl, rfl⟩ := hcs
      exact ⟨[], rfl, by decide, Go.Sl.sl_nil⟩
    · simp [Value.cells] at hcs
      obtain ⟨rfl, rfl, rfl⟩ := hcs
      have hz' : zs.length = cap1 := by simpa using hz
      have h := Go.Sl.ints_old (w := W) (k := .u8) hl hz' hcell
      rw [Go.Sl.u8s_of _ fun n hn => hwz n (List.mem_of_mem_take hn)] at h
      exact ⟨_, by simp; omega, by have h' := Nat.le_trans hm (show maxLen ≤ 9223372036854775807 by decide); simp; omega, h⟩
  subst hl1
  obtain ⟨a2, rfl, rfl, rfl, w2⟩ := open_int Try.underlying5 (hval 2 5 v2 rfl rfl) h2
  clear hA0 hval0
  have e0 : (((UInt32.ofNat a0.toNat).toNat : Nat) : Int) = a0 := by
    simp only [Lit.wf, Bool.and_eq_true, decide_eq_true_eq] at w0
    have h0 : (0 : Int) ≤ a0 := w0.1
    have h1 : a0 ≤ 4294967295 := w0.2
    rw [UInt32.toNat_ofNat_of_lt' (by show a0.toNat < 4294967296; omega)]; omega
  have e2 : (((UInt8.ofNat a2.toNat).toNat : Nat) : Int) = a2 := by
    simp only [Lit.wf, Bool.and_eq_true, decide_eq_true_eq] at w2
    have h0 : (0 : Int) ≤ a2 := w2.1
    have h1 : a2 ≤ 255 := w2.2
    rw [UInt8.toNat_ofNat_of_lt' (by show a2.toNat < 256; omega)]; omega
  have hk := Go.Sl.Spec.keptR (Go.Fl.intakeForwards_spec (UInt32.ofNat a0.toNat) a1 cap1 l1 hb1 (UInt8.ofNat a2.toNat)) W (fun A hA => by simp only [List.mem_cons, List.not_mem_nil, or_false] at hA; rcases hA with rfl <;> assumption)
  simp only [Go.Sl.vU32, Go.Sl.vU8, e0, e2] at hk
  refine hk.mono fun e W' ⟨v, he, ⟨r, hv⟩, bel⟩ => ?_
  subst he
  rw [show v = .bool true from hv]
  exact ⟨_, rfl, _, _, _, [], _, [], hW', trodAll_mk1 (shut_bool Try.underlying4 _), (trodAll_cons_mk (shut_int Try.underlying22 w0) (trodAll_cons_mk (Below.trod laidOut (by kernel_rfl) (of_decide_eq_true (by kernel_rfl)) k1 bel lt1) (trodAll_cons_mk (shut_int Try.underlying5 w2) trodAll_mk0))), rfl, bel.frame _, fun h => by cases h⟩
theorem over : Rows.intakeForwardsRow.holds Try.pinned (OpenSpec.ofChange Rows.intakeForwardsSpec) :=
  OpenClaim.holds_of_wide 3 Try.f3 rfl rfl rfl rfl rfl rfl rfl ⟨rfl, rfl, rfl, rfl, rfl⟩ rfl rfl rfl rfl rfl (by kernel_rfl) Try.func3 (by kernel_rfl)
    (of_decide_eq_true (by kernel_rfl)) (by unfold Func.isWrapper; first | (rw [if_pos (by decide +kernel)]; kernel_rfl) | (rw [if_neg (by decide +kernel)]; exact ⟨rfl, rfl⟩))
    (fun os started H enc _ => lifted os started H enc)
theorem proved : Rows.IntakeForwardsSaid := over
#print axioms proved
end Go.Proofs.Ytogemllbdkbjkaa.intakeForwards
