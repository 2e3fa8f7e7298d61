/- Comparisons with nil, and of bools. -/
import Derived.Test.YtogemllbdkbjkaaSlSlice
set_option linter.unusedVariables false
set_option linter.unusedSimpArgs false
namespace Go.Sl
open Go
section
variable {P : Program} {L : Env} {hs : List HProp} {dst : Option Tmp} {ty : TypeId} {pos : String} {aft : Array Edge} {g : Option (Nat × Bool)}
theorem run_eq_slice (w : World) (t e : TypeId) (a : Option Addr) (n c : Nat) (h : P.underlying t = some (.slice e)) : (Op.equal t (.slice a n c) (.slice none 0 0)).run P w = .ok a.isNone w := by
  have key : ∀ d : Nat, (Op.equalIn (d + 1) t (.slice a n c) (.slice none 0 0)).run P w = .ok a.isNone w := fun d => by
    cases a <;> simp [Op.equalIn, run_underlying h, Sem.run_bind, Sem.run_pure]
  exact key 9999
theorem run_eq_bool (w : World) (t : TypeId) (a b : Bool) (h : P.underlying t = some .bool) : (Op.equal t (.bool a) (.bool b)).run P w = .ok (a == b) w := by
  have key : ∀ d : Nat, (Op.equalIn (d + 1) t (.bool a) (.bool b)).run P w = .ok (a == b) w := fun d => by
    simp [Op.equalIn, run_underlying h, Sem.run_bind, Sem.run_pure]
  exact key 9999
theorem run_eq_ptr (w : World) (t e : TypeId) (a : Option Addr) (h : P.underlying t = some (.pointer e)) : (Op.equal t (.pointer a) (.pointer none)).run P w = .ok a.isNone w := by
  have key : ∀ d : Nat, (Op.equalIn (d + 1) t (.pointer a) (.pointer none)).run P w = .ok a.isNone w := fun d => by
    cases a <;> simp [Op.equalIn, run_underlying h, Sem.run_bind, Sem.run_pure]
  exact key 9999
theorem run_eq_map (w : World) (t k e : TypeId) (a : Option Nat) (h : P.underlying t = some (.map k e)) : (Op.equal t (.map a) (.map none)).run P w = .ok a.isNone w := by
  have key : ∀ d : Nat, (Op.equalIn (d + 1) t (.map a) (.map none)).run P w = .ok a.isNone w := fun d => by
    cases a <;> simp [Op.equalIn, run_underlying h, Sem.run_bind, Sem.run_pure]
  exact key 9999
theorem Yld.eqlNil_slice {x : Operand} {t t' e : TypeId} {a : Option Addr} {n c : Nat} (h : P.underlying t = some (.slice e)) (hx : L.ev x = some (.slice a n c)) : Yld P ⟨dst, .binOp .eql t x (.const (.slice none 0 0)) t', ty, pos, aft, g⟩ L hs (.bool a.isNone) :=
  Yld.bin (v := .slice none 0 0) hx rfl fun w => by
    have hg : (eqGuard .eql t x (.const (.slice none 0 0)) (.slice a n c) (.slice none 0 0)).run P w = .ok () w := by cases a <;> rfl
    have hb : (binOp .eql t (.slice a n c) (.slice none 0 0)).run P w = .ok (.bool a.isNone) w := by
      have := run_eq_slice w t e a n c h
      cases a <;> (show (do pure (Value.bool (← Op.equal t _ _)) : Sem Value).run P w = _; simp only [Sem.run_bind, this, Result.andThen_ok]; rfl)
    simp only [Sem.run_bind, hg, hb, Result.andThen_ok]
theorem Yld.neqNil_slice {x : Operand} {t t' e : TypeId} {a : Option Addr} {n c : Nat} (h : P.underlying t = some (.slice e)) (hx : L.ev x = some (.slice a n c)) : Yld P ⟨dst, .binOp .neq t x (.const (.slice none 0 0)) t', ty, pos, aft, g⟩ L hs (.bool !a.isNone) :=
  Yld.bin (v := .slice none 0 0) hx rfl fun w => by
    have hg : (eqGuard .neq t x (.const (.slice none 0 0)) (.slice a n c) (.slice none 0 0)).run P w = .ok () w := by cases a <;> rfl
    have hb : (binOp .neq t (.slice a n c) (.slice none 0 0)).run P w = .ok (.bool !a.isNone) w := by
      have := run_eq_slice w t e a n c h
      cases a <;> (show (do pure (Value.bool (!(← Op.equal t _ _))) : Sem Value).run P w = _; simp only [Sem.run_bind, this, Result.andThen_ok]; rfl)
    simp only [Sem.run_bind, hg, hb, Result.andThen_ok]
theorem Yld.eqlNil_ptr {x : Operand} {t t' e : TypeId} {a : Option Addr} (h : P.underlying t = some (.pointer e)) (hx : L.ev x = some (.pointer a)) : Yld P ⟨dst, .binOp .eql t x (.const (.pointer none)) t', ty, pos, aft, g⟩ L hs (.bool a.isNone) :=
  Yld.bin (v := .pointer none) hx rfl fun w => by
    have hg : (eqGuard .eql t x (.const (.pointer none)) (.pointer a) (.pointer none)).run P w = .ok () w := by cases a <;> rfl
    have hb : (binOp .eql t (.pointer a) (.pointer none)).run P w = .ok (.bool a.isNone) w := by
      have := run_eq_ptr w t e a h
      cases a <;> (show (do pure (Value.bool (← Op.equal t _ _)) : Sem Value).run P w = _; simp only [Sem.run_bind, this, Result.andThen_ok]; rfl)
    simp only [Sem.run_bind, hg, hb, Result.andThen_ok]
theorem Yld.neqNil_ptr {x : Operand} {t t' e : TypeId} {a : Option Addr} (h : P.underlying t = some (.pointer e)) (hx : L.ev x = some (.pointer a)) : Yld P ⟨dst, .binOp .neq t x (.const (.pointer none)) t', ty, pos, aft, g⟩ L hs (.bool !a.isNone) :=
  Yld.bin (v := .pointer none) hx rfl fun w => by
    have hg : (eqGuard .neq t x (.const (.pointer none)) (.pointer a) (.pointer none)).run P w = .ok () w := by cases a <;> rfl
    have hb : (binOp .neq t (.pointer a) (.pointer none)).run P w = .ok (.bool !a.isNone) w := by
      have := run_eq_ptr w t e a h
      cases a <;> (show (do pure (Value.bool (!(← Op.equal t _ _))) : Sem Value).run P w = _; simp only [Sem.run_bind, this, Result.andThen_ok]; rfl)
    simp only [Sem.run_bind, hg, hb, Result.andThen_ok]
theorem Yld.eqlNil_map {x : Operand} {t t' k e : TypeId} {a : Option Nat} (h : P.underlying t = some (.map k e)) (hx : L.ev x = some (.map a)) : Yld P ⟨dst, .binOp .eql t x (.const (.map none)) t', ty, pos, aft, g⟩ L hs (.bool a.isNone) :=
  Yld.bin (v := .map none) hx rfl fun w => by
    have hg : (eqGuard .eql t x (.const (.map none)) (.map a) (.map none)).run P w = .ok () w := by cases a <;> rfl
    have hb : (binOp .eql t (.map a) (.map none)).run P w = .ok (.bool a.isNone) w := by
      have := run_eq_map w t k e a h
      cases a <;> (show (do pure (Value.bool (← Op.equal t _ _)) : Sem Value).run P w = _; simp only [Sem.run_bind, this, Result.andThen_ok]; rfl)
    simp only [Sem.run_bind, hg, hb, Result.andThen_ok]
theorem Yld.eql_b {x y : Operand} {t t' : TypeId} {a b : Bool} (h : P.underlying t = some .bool) (hx : L.ev x = some (.bool a)) (hy : L.ev y = some (.bool b)) :
    Yld P ⟨dst, .binOp .eql t x y t', ty, pos, aft, g⟩ L hs (.bool (decide (a = b))) := Yld.bin hx hy fun w => by
  have e : (a == b) = decide (a = b) := by cases a <;> cases b <;> rfl
  have hg : (eqGuard .eql t x y (.bool a) (.bool b)).run P w = .ok () w := rfl
  have hb : (binOp .eql t (.bool a) (.bool b)).run P w = .ok (.bool (decide (a = b))) w := by
    show (do pure (Value.bool (← Op.equal t _ _)) : Sem Value).run P w = _
    simp only [Sem.run_bind, run_eq_bool w t a b h, Result.andThen_ok, ← e]
    rfl
  simp only [Sem.run_bind, hg, hb, Result.andThen_ok]
theorem Yld.neq_b {x y : Operand} {t t' : TypeId} {a b : Bool} (h : P.underlying t = some .bool) (hx : L.ev x = some (.bool a)) (hy : L.ev y = some (.bool b)) :
    Yld P ⟨dst, .binOp .neq t x y t', ty, pos, aft, g⟩ L hs (.bool (decide (a ≠ b))) := Yld.bin hx hy fun w => by
  have e : (!(a == b)) = decide (a ≠ b) := by cases a <;> cases b <;> rfl
  have hg : (eqGuard .neq t x y (.bool a) (.bool b)).run P w = .ok () w := rfl
  have hb : (binOp .neq t (.bool a) (.bool b)).run P w = .ok (.bool (decide (a ≠ b))) w := by
    show (do pure (Value.bool (!(← Op.equal t _ _))) : Sem Value).run P w = _
    simp only [Sem.run_bind, run_eq_bool w t a b h, Result.andThen_ok, ← e]
    rfl
  simp only [Sem.run_bind, hg, hb, Result.andThen_ok]
end
end Go.Sl
