/- Plain laws: numbers that go round. -/
import Derived.Test.YtogemllbdkbjkaaSlSlice
set_option linter.unusedVariables false
set_option linter.unusedSimpArgs false
namespace Go.Fl
open Go Go.Sl
def dist (a b : UInt32) : UInt32 := b - a
/-- does a come ahead of b? -/
def less (a b : UInt32) : Bool := decide (0 < (b - a).toNat ∧ (b - a).toNat < 2147483648)
def lessShort (a b : UInt16) : Bool := decide (0 < (b - a).toNat ∧ (b - a).toNat < 32768)
def later (a b : UInt32) : UInt32 := if less a b then b else a
def inR (x lo hi : UInt32) : Bool := decide (dist lo x ≤ dist lo hi)
theorem wrap_i32_pos (n : Nat) (h : n < 4294967296) : decide (IntKind.i32.wrap (n : Int) > 0) = decide (0 < n ∧ n < 2147483648) := by
  have hb : IntKind.i32.bits = 32 := rfl
  have hs : IntKind.i32.signed = true := rfl
  simp only [IntKind.wrap, hb, hs, Bool.true_and, decide_eq_true_eq]
  have e1 : (2 ^ 32 : Int) = 4294967296 := rfl
  have e2 : (2 ^ (32 - 1) : Int) = 2147483648 := rfl
  rw [e1, e2, decide_eq_decide]; split <;> omega
theorem wrap_i16_pos (n : Nat) (h : n < 65536) : decide (IntKind.i16.wrap (n : Int) > 0) = decide (0 < n ∧ n < 32768) := by
  have hb : IntKind.i16.bits = 16 := rfl
  have hs : IntKind.i16.signed = true := rfl
  simp only [IntKind.wrap, hb, hs, Bool.true_and, decide_eq_true_eq]
  have e1 : (2 ^ 16 : Int) = 65536 := rfl
  have e2 : (2 ^ (16 - 1) : Int) = 32768 := rfl
  rw [e1, e2, decide_eq_decide]; split <;> omega
theorem less_run {P : Program} {x y : Operand} {t : TypeId} (a b : UInt32) (w : World) : (do eqGuard .gtr t x y (.int .i32 (IntKind.i32.wrap ((b - a).toNat : Int))) (.int .i32 0); binOp .gtr t (.int .i32 (IntKind.i32.wrap ((b - a).toNat : Int))) (.int .i32 0) : Sem Value).run P w = .ok (.bool (less a b)) w := by
  unfold less
  rw [← wrap_i32_pos _ (u32_lt _)]; rfl
theorem lessShort_run {P : Program} {x y : Operand} {t : TypeId} (a b : UInt16) (w : World) : (do eqGuard .gtr t x y (.int .i16 (IntKind.i16.wrap ((b - a).toNat : Int))) (.int .i16 0); binOp .gtr t (.int .i16 (IntKind.i16.wrap ((b - a).toNat : Int))) (.int .i16 0) : Sem Value).run P w = .ok (.bool (lessShort a b)) w := by
  unfold lessShort
  rw [← wrap_i16_pos _ (u16_lt _)]; rfl
end Go.Fl
