/- Remainders, and structs held one against the other. -/
import Derived.Test.YtogemllbdkbjkaaSlBytes
import Derived.Laws.StructEq
set_option linter.unusedVariables false
set_option linter.unusedSimpArgs false
namespace Go.Sl
open Go
section
variable {P : Program} {L : Env} {hs : List HProp} {dst : Option Tmp} {ty : TypeId} {pos : String} {aft : Array Edge} {g : Option (Nat × Bool)}
theorem run_rem {k : IntKind} {t : TypeId} {a b : Int} (hb : b ≠ 0) (w : World) : (binOp .rem t (.int k a) (.int k b)).run P w = .ok (.int k (a.tmod b)) w := by
  simp [binOp, Op.intDiv, hb, Sem.run_pure]
theorem Yld.rem_u32 {x y : Operand} {t t' : TypeId} {a b : UInt32} (hx : L.ev x = some (vU32 a)) (hy : L.ev y = some (vU32 b)) (hb : b ≠ 0) :
    Yld P ⟨dst, .binOp .rem t x y t', ty, pos, aft, g⟩ L hs (vU32 (a % b)) := Yld.bin hx hy fun w => by
  have hb' : ((b.toNat : Int)) ≠ 0 := fun h => hb (UInt32.toNat_inj.1 (by simpa using h))
  have e : ((a.toNat : Int)).tmod (b.toNat : Int) = ((a % b).toNat : Int) := by
    rw [Int.tmod_eq_emod_of_nonneg (by omega), UInt32.toNat_mod]; simp
  have h := run_rem (P := P) (k := .u32) (t := t) (a := (a.toNat : Int)) hb' w
  rw [e] at h
  exact h
theorem Yld.rem_u64 {x y : Operand} {t t' : TypeId} {a b : UInt64} (hx : L.ev x = some (vU64 a)) (hy : L.ev y = some (vU64 b)) (hb : b ≠ 0) :
    Yld P ⟨dst, .binOp .rem t x y t', ty, pos, aft, g⟩ L hs (vU64 (a % b)) := Yld.bin hx hy fun w => by
  have hb' : ((b.toNat : Int)) ≠ 0 := fun h => hb (UInt64.toNat_inj.1 (by simpa using h))
  have e : ((a.toNat : Int)).tmod (b.toNat : Int) = ((a % b).toNat : Int) := by
    rw [Int.tmod_eq_emod_of_nonneg (by omega), UInt64.toNat_mod]; simp
  have h := run_rem (P := P) (k := .u64) (t := t) (a := (a.toNat : Int)) hb' w
  rw [e] at h
  exact h
theorem Yld.eqlAgg {x y : Operand} {t t' : TypeId} {us vs : Array Value} {r : Bool} (hm : P.eqGuardType P.depth t = false) (hx : L.ev x = some (.agg us)) (hy : L.ev y = some (.agg vs)) (heq : ∀ w, (Op.equalIn 10000 t (.agg us) (.agg vs)).run P w = .ok r w) :
    Yld P ⟨dst, .binOp .eql t x y t', ty, pos, aft, g⟩ L hs (.bool r) := Yld.bin hx hy fun w => by
  simp only [Sem.run_bind, run_eqGuard_agg w _ _ _ _ _ _ hm, Result.andThen_ok, run_eql_struct, heq]
end
end Go.Sl
