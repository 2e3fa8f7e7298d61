/- The program's struct keys. -/
import Derived.Test.YtogemllbdkbjkaaSlKeys
import Derived.Test.YtogemllbdkbjkaaR1Facts
import Derived.Test.YtogemllbdkbjkaaFlTypes
set_option linter.unusedVariables false
set_option linter.unusedSimpArgs false
namespace Go.Fl
open Go Go.Sl Go.Proofs
abbrev encSL (k : UInt16 × Bool) : Value := .agg #[vU16 k.1, .bool k.2]
theorem check101n (n : Nat) (e : Bool) (k : UInt16 × Bool) (w : World) : (Instr.checkKey e (n + 1 + 1) 101 (encSL k)).run Try.prog w = .ok () w := by
  rw [Instr.checkKey]
  simp only [Sem.run_bind, Try.runUnderlying101, Result.andThen_ok]
  simp [go_sem, Instr.checkKey, Try.runUnderlying30, Try.runUnderlying4]
theorem check101 (e : Bool) (k : UInt16 × Bool) (w : World) : (Instr.checkKey e 10000 101 (encSL k)).run Try.prog w = .ok () w := check101n 9998 e k w
theorem eq101n (n : Nat) (k j : UInt16 × Bool) (w : World) : (Op.equalIn (n + 1 + 1) 101 (encSL k) (encSL j)).run Try.prog w = .ok (decide (j = k)) w := by
  rw [run_equalIn_agg w _ 101 _ _ (by simp [Program.fieldsOf, Try.underlying101]) Try.stoodInHeld101]
  simp [Program.fieldsOf, Try.underlying101, go_sem, Try.underlying30, Try.underlying4]
  obtain ⟨a, b⟩ := k
  obtain ⟨c, d⟩ := j
  have h : ((a.toNat : Int) = c.toNat) ↔ a = c := ⟨fun h => UInt16.toNat_inj.1 (by omega), fun h => h ▸ rfl⟩
  by_cases h1 : a = c
  · by_cases h2 : b = d
    · simp [h1, h2]
    · have h3 : ¬ d = b := fun e => h2 e.symm
      simp [h1, h2, h3]
  · have h3 : ¬ c = a := fun e => h1 e.symm
    have h4 : ¬ ((a.toNat : Int) = c.toNat) := fun e => h1 (h.1 e)
    simp [h3, h4]
theorem eq101 (k j : UInt16 × Bool) (w : World) : (Op.equal 101 (encSL k) (encSL j)).run Try.prog w = .ok (decide (j = k)) w := eq101n 9998 k j w
theorem sameSL (n : Nat) (k : UInt16 × Bool) : Instr.sameBits (n + 1 + 1) (encSL k) (encSL k) = true := by simp [Instr.sameBits]
theorem key101 : KeyLaw Try.prog 101 encSL := KeyLaw.agg Try.underlying101 check101 eq101 fun k => by
  exact sameSL 9998 k
end Go.Fl
