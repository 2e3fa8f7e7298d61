/- The operations on numbers, kind by kind. -/
import Derived.Test.YtogemllbdkbjkaaSlIns
set_option linter.unusedVariables false
set_option linter.unusedSimpArgs false
namespace Go.Sl
open Go
section
variable {P : Program} {L : Env} {hs : List HProp} {dst : Option Tmp} {ty : TypeId} {pos : String} {aft : Array Edge} {g : Option (Nat × Bool)}
theorem Yld.bin {op : BinOp} {x y : Operand} {t t' : TypeId} {u v r : Value} (hx : L.ev x = some u) (hy : L.ev y = some v)
    (h : ∀ w, (do eqGuard op t x y u v; binOp op t u v : Sem Value).run P w = .ok r w) : Yld P ⟨dst, .binOp op t x y t', ty, pos, aft, g⟩ L hs r := by
  intro ρ w F hev hh
  have h1 := h w
  simp only [Sem.run_bind] at h1
  simp only [execOp, hev x _ hx, hev y _ hy, Sem.run_bind, h1, Result.andThen_ok]
  rfl
theorem Yld.un {op : UnOp} {x : Operand} {t : TypeId} {u r : Value} (hx : L.ev x = some u)
    (h : ∀ w, (Op.unary op u).run P w = .ok r w) : Yld P ⟨dst, .unOp op t x, ty, pos, aft, g⟩ L hs r := by
  intro ρ w F hev hh
  simp only [execOp, hev x _ hx, Sem.run_bind, h w, Result.andThen_ok]
  rfl
theorem Yld.conv {x : Operand} {s d : TypeId} {u r : Value} (hx : L.ev x = some u)
    (h : ∀ w, (convert s d u).run P w = .ok r w) : Yld P ⟨dst, .convert s d x, ty, pos, aft, g⟩ L hs r := by
  intro ρ w F hev hh
  simp only [execOp, hev x _ hx, Sem.run_bind, h w, Result.andThen_ok]
  rfl
theorem wrap_u (k : IntKind) (h : k.signed = false) (n : Int) : k.wrap n = n % (2 ^ k.bits : Int) := by simp [IntKind.wrap, h]
theorem run_conv_int {s d : TypeId} {sd : TypeDesc} {k k' : IntKind} {n : Int} (hs : ∀ w, (underlying s).run P w = .ok sd w) (hd : ∀ w, (underlying d).run P w = .ok (.int k) w) (w : World) :
    (convert s d (.int k' n)).run P w = .ok (.int k (k.wrap n)) w := by
  unfold convert
  simp only [Sem.run_bind, hs w, hd w, Result.andThen_ok]
  cases sd <;> rfl


theorem wrap_u8 (n : Int) : IntKind.u8.wrap n = n % 256 := by rw [wrap_u _ rfl]; rfl
theorem u8_lt (x : UInt8) : x.toNat < 256 := x.toNat_lt
theorem Yld.add_u8 {x y : Operand} {t t' : TypeId} {a b : UInt8} (hx : L.ev x = some (vU8 a)) (hy : L.ev y = some (vU8 b)) :
    Yld P ⟨dst, .binOp .add t x y t', ty, pos, aft, g⟩ L hs (vU8 (a + b)) := Yld.bin hx hy fun w => by
  have e : IntKind.u8.wrap ((a.toNat : Int) + b.toNat) = ((a + b).toNat : Int) := by rw [wrap_u8, UInt8.toNat_add]; omega
  exact (show _ = Result.ok (Value.int .u8 (IntKind.u8.wrap ((a.toNat : Int) + b.toNat))) w from rfl).trans (by rw [e])
theorem Yld.sub_u8 {x y : Operand} {t t' : TypeId} {a b : UInt8} (hx : L.ev x = some (vU8 a)) (hy : L.ev y = some (vU8 b)) :
    Yld P ⟨dst, .binOp .sub t x y t', ty, pos, aft, g⟩ L hs (vU8 (a - b)) := Yld.bin hx hy fun w => by
  have e : IntKind.u8.wrap ((a.toNat : Int) - b.toNat) = ((a - b).toNat : Int) := by have ha := u8_lt a; have hb := u8_lt b; rw [wrap_u8, UInt8.toNat_sub]; omega
  exact (show _ = Result.ok (Value.int .u8 (IntKind.u8.wrap ((a.toNat : Int) - b.toNat))) w from rfl).trans (by rw [e])
theorem Yld.mul_u8 {x y : Operand} {t t' : TypeId} {a b : UInt8} (hx : L.ev x = some (vU8 a)) (hy : L.ev y = some (vU8 b)) :
    Yld P ⟨dst, .binOp .mul t x y t', ty, pos, aft, g⟩ L hs (vU8 (a * b)) := Yld.bin hx hy fun w => by
  have e : IntKind.u8.wrap ((a.toNat : Int) * b.toNat) = ((a * b).toNat : Int) := by rw [wrap_u8, UInt8.toNat_mul]; simp
  exact (show _ = Result.ok (Value.int .u8 (IntKind.u8.wrap ((a.toNat : Int) * b.toNat))) w from rfl).trans (by rw [e])
theorem Yld.eql_u8 {x y : Operand} {t t' : TypeId} {a b : UInt8} (hx : L.ev x = some (vU8 a)) (hy : L.ev y = some (vU8 b)) :
    Yld P ⟨dst, .binOp .eql t x y t', ty, pos, aft, g⟩ L hs (.bool (decide (a = b))) := Yld.bin hx hy fun w => by
  have e : ((a.toNat : Int) == b.toNat) = decide (a = b) := by
    rw [Bool.eq_iff_iff]
    simp only [beq_iff_eq, bne_iff_ne, decide_eq_true_eq, ne_eq, ← UInt8.toNat_inj, UInt8.lt_iff_toNat_lt, UInt8.le_iff_toNat_le]
    omega
  exact (show _ = Result.ok (Value.bool ((a.toNat : Int) == b.toNat)) w from rfl).trans (by rw [e])
theorem Yld.neq_u8 {x y : Operand} {t t' : TypeId} {a b : UInt8} (hx : L.ev x = some (vU8 a)) (hy : L.ev y = some (vU8 b)) :
    Yld P ⟨dst, .binOp .neq t x y t', ty, pos, aft, g⟩ L hs (.bool (decide (a ≠ b))) := Yld.bin hx hy fun w => by
  have e : ((a.toNat : Int) != b.toNat) = decide (a ≠ b) := by
    rw [Bool.eq_iff_iff]
    simp only [beq_iff_eq, bne_iff_ne, decide_eq_true_eq, ne_eq, ← UInt8.toNat_inj, UInt8.lt_iff_toNat_lt, UInt8.le_iff_toNat_le]
    omega
  exact (show _ = Result.ok (Value.bool ((a.toNat : Int) != b.toNat)) w from rfl).trans (by rw [e])
theorem Yld.lss_u8 {x y : Operand} {t t' : TypeId} {a b : UInt8} (hx : L.ev x = some (vU8 a)) (hy : L.ev y = some (vU8 b)) :
    Yld P ⟨dst, .binOp .lss t x y t', ty, pos, aft, g⟩ L hs (.bool (decide (a < b))) := Yld.bin hx hy fun w => by
  have e : (decide ((a.toNat : Int) < b.toNat)) = decide (a < b) := by
    rw [Bool.eq_iff_iff]
    simp only [beq_iff_eq, bne_iff_ne, decide_eq_true_eq, ne_eq, ← UInt8.toNat_inj, UInt8.lt_iff_toNat_lt, UInt8.le_iff_toNat_le]
    omega
  exact (show _ = Result.ok (Value.bool (decide ((a.toNat : Int) < b.toNat))) w from rfl).trans (by rw [e])
theorem Yld.leq_u8 {x y : Operand} {t t' : TypeId} {a b : UInt8} (hx : L.ev x = some (vU8 a)) (hy : L.ev y = some (vU8 b)) :
    Yld P ⟨dst, .binOp .leq t x y t', ty, pos, aft, g⟩ L hs (.bool (decide (a ≤ b))) := Yld.bin hx hy fun w => by
  have e : (decide ((a.toNat : Int) ≤ b.toNat)) = decide (a ≤ b) := by
    rw [Bool.eq_iff_iff]
    simp only [beq_iff_eq, bne_iff_ne, decide_eq_true_eq, ne_eq, ← UInt8.toNat_inj, UInt8.lt_iff_toNat_lt, UInt8.le_iff_toNat_le]
    omega
  exact (show _ = Result.ok (Value.bool (decide ((a.toNat : Int) ≤ b.toNat))) w from rfl).trans (by rw [e])
theorem Yld.gtr_u8 {x y : Operand} {t t' : TypeId} {a b : UInt8} (hx : L.ev x = some (vU8 a)) (hy : L.ev y = some (vU8 b)) :
    Yld P ⟨dst, .binOp .gtr t x y t', ty, pos, aft, g⟩ L hs (.bool (decide (b < a))) := Yld.bin hx hy fun w => by
  have e : (decide ((a.toNat : Int) > b.toNat)) = decide (b < a) := by
    rw [Bool.eq_iff_iff]
    simp only [beq_iff_eq, bne_iff_ne, decide_eq_true_eq, ne_eq, ← UInt8.toNat_inj, UInt8.lt_iff_toNat_lt, UInt8.le_iff_toNat_le]
    omega
  exact (show _ = Result.ok (Value.bool (decide ((a.toNat : Int) > b.toNat))) w from rfl).trans (by rw [e])
theorem Yld.geq_u8 {x y : Operand} {t t' : TypeId} {a b : UInt8} (hx : L.ev x = some (vU8 a)) (hy : L.ev y = some (vU8 b)) :
    Yld P ⟨dst, .binOp .geq t x y t', ty, pos, aft, g⟩ L hs (.bool (decide (b ≤ a))) := Yld.bin hx hy fun w => by
  have e : (decide ((a.toNat : Int) ≥ b.toNat)) = decide (b ≤ a) := by
    rw [Bool.eq_iff_iff]
    simp only [beq_iff_eq, bne_iff_ne, decide_eq_true_eq, ne_eq, ← UInt8.toNat_inj, UInt8.lt_iff_toNat_lt, UInt8.le_iff_toNat_le]
    omega
  exact (show _ = Result.ok (Value.bool (decide ((a.toNat : Int) ≥ b.toNat))) w from rfl).trans (by rw [e])
theorem Yld.and_u8 {x y : Operand} {t t' : TypeId} {a b : UInt8} (hx : L.ev x = some (vU8 a)) (hy : L.ev y = some (vU8 b)) :
    Yld P ⟨dst, .binOp .and t x y t', ty, pos, aft, g⟩ L hs (vU8 (a &&& b)) := Yld.bin hx hy fun w => by
  have e1 : (BitVec.ofInt 8 (a.toNat : Int)) = a.toBitVec := by apply BitVec.eq_of_toNat_eq; simp
  have e2 : (BitVec.ofInt 8 (b.toNat : Int)) = b.toBitVec := by apply BitVec.eq_of_toNat_eq; simp
  have e : IntKind.u8.wrap ((BitVec.ofInt 8 (a.toNat : Int) &&& BitVec.ofInt 8 (b.toNat : Int)).toNat : Int) = ((a &&& b).toNat : Int) := by
    rw [e1, e2]
    have hlt : (a.toBitVec &&& b.toBitVec).toNat < 256 := (a.toBitVec &&& b.toBitVec).isLt
    rw [wrap_u8, Int.emod_eq_of_lt (by omega) (by omega)]; rfl
  exact (show _ = Result.ok (Value.int .u8 (IntKind.u8.wrap ((BitVec.ofInt 8 (a.toNat : Int) &&& BitVec.ofInt 8 (b.toNat : Int)).toNat : Int))) w from rfl).trans (by rw [e])
theorem Yld.or_u8 {x y : Operand} {t t' : TypeId} {a b : UInt8} (hx : L.ev x = some (vU8 a)) (hy : L.ev y = some (vU8 b)) :
    Yld P ⟨dst, .binOp .or t x y t', ty, pos, aft, g⟩ L hs (vU8 (a ||| b)) := Yld.bin hx hy fun w => by
  have e1 : (BitVec.ofInt 8 (a.toNat : Int)) = a.toBitVec := by apply BitVec.eq_of_toNat_eq; simp
  have e2 : (BitVec.ofInt 8 (b.toNat : Int)) = b.toBitVec := by apply BitVec.eq_of_toNat_eq; simp
  have e : IntKind.u8.wrap ((BitVec.ofInt 8 (a.toNat : Int) ||| BitVec.ofInt 8 (b.toNat : Int)).toNat : Int) = ((a ||| b).toNat : Int) := by
    rw [e1, e2]
    have hlt : (a.toBitVec ||| b.toBitVec).toNat < 256 := (a.toBitVec ||| b.toBitVec).isLt
    rw [wrap_u8, Int.emod_eq_of_lt (by omega) (by omega)]; rfl
  exact (show _ = Result.ok (Value.int .u8 (IntKind.u8.wrap ((BitVec.ofInt 8 (a.toNat : Int) ||| BitVec.ofInt 8 (b.toNat : Int)).toNat : Int))) w from rfl).trans (by rw [e])
theorem Yld.xor_u8 {x y : Operand} {t t' : TypeId} {a b : UInt8} (hx : L.ev x = some (vU8 a)) (hy : L.ev y = some (vU8 b)) :
    Yld P ⟨dst, .binOp .xor t x y t', ty, pos, aft, g⟩ L hs (vU8 (a ^^^ b)) := Yld.bin hx hy fun w => by
  have e1 : (BitVec.ofInt 8 (a.toNat : Int)) = a.toBitVec := by apply BitVec.eq_of_toNat_eq; simp
  have e2 : (BitVec.ofInt 8 (b.toNat : Int)) = b.toBitVec := by apply BitVec.eq_of_toNat_eq; simp
  have e : IntKind.u8.wrap ((BitVec.ofInt 8 (a.toNat : Int) ^^^ BitVec.ofInt 8 (b.toNat : Int)).toNat : Int) = ((a ^^^ b).toNat : Int) := by
    rw [e1, e2]
    have hlt : (a.toBitVec ^^^ b.toBitVec).toNat < 256 := (a.toBitVec ^^^ b.toBitVec).isLt
    rw [wrap_u8, Int.emod_eq_of_lt (by omega) (by omega)]; rfl
  exact (show _ = Result.ok (Value.int .u8 (IntKind.u8.wrap ((BitVec.ofInt 8 (a.toNat : Int) ^^^ BitVec.ofInt 8 (b.toNat : Int)).toNat : Int))) w from rfl).trans (by rw [e])

theorem wrap_u16 (n : Int) : IntKind.u16.wrap n = n % 65536 := by rw [wrap_u _ rfl]; rfl
theorem u16_lt (x : UInt16) : x.toNat < 65536 := x.toNat_lt
theorem Yld.add_u16 {x y : Operand} {t t' : TypeId} {a b : UInt16} (hx : L.ev x = some (vU16 a)) (hy : L.ev y = some (vU16 b)) :
    Yld P ⟨dst, .binOp .add t x y t', ty, pos, aft, g⟩ L hs (vU16 (a + b)) := Yld.bin hx hy fun w => by
  have e : IntKind.u16.wrap ((a.toNat : Int) + b.toNat) = ((a + b).toNat : Int) := by rw [wrap_u16, UInt16.toNat_add]; omega
  exact (show _ = Result.ok (Value.int .u16 (IntKind.u16.wrap ((a.toNat : Int) + b.toNat))) w from rfl).trans (by rw [e])
theorem Yld.sub_u16 {x y : Operand} {t t' : TypeId} {a b : UInt16} (hx : L.ev x = some (vU16 a)) (hy : L.ev y = some (vU16 b)) :
    Yld P ⟨dst, .binOp .sub t x y t', ty, pos, aft, g⟩ L hs (vU16 (a - b)) := Yld.bin hx hy fun w => by
  have e : IntKind.u16.wrap ((a.toNat : Int) - b.toNat) = ((a - b).toNat : Int) := by have ha := u16_lt a; have hb := u16_lt b; rw [wrap_u16, UInt16.toNat_sub]; omega
  exact (show _ = Result.ok (Value.int .u16 (IntKind.u16.wrap ((a.toNat : Int) - b.toNat))) w from rfl).trans (by rw [e])
theorem Yld.mul_u16 {x y : Operand} {t t' : TypeId} {a b : UInt16} (hx : L.ev x = some (vU16 a)) (hy : L.ev y = some (vU16 b)) :
    Yld P ⟨dst, .binOp .mul t x y t', ty, pos, aft, g⟩ L hs (vU16 (a * b)) := Yld.bin hx hy fun w => by
  have e : IntKind.u16.wrap ((a.toNat : Int) * b.toNat) = ((a * b).toNat : Int) := by rw [wrap_u16, UInt16.toNat_mul]; simp
  exact (show _ = Result.ok (Value.int .u16 (IntKind.u16.wrap ((a.toNat : Int) * b.toNat))) w from rfl).trans (by rw [e])
theorem Yld.eql_u16 {x y : Operand} {t t' : TypeId} {a b : UInt16} (hx : L.ev x = some (vU16 a)) (hy : L.ev y = some (vU16 b)) :
    Yld P ⟨dst, .binOp .eql t x y t', ty, pos, aft, g⟩ L hs (.bool (decide (a = b))) := Yld.bin hx hy fun w => by
  have e : ((a.toNat : Int) == b.toNat) = decide (a = b) := by
    rw [Bool.eq_iff_iff]
    simp only [beq_iff_eq, bne_iff_ne, decide_eq_true_eq, ne_eq, ← UInt16.toNat_inj, UInt16.lt_iff_toNat_lt, UInt16.le_iff_toNat_le]
    omega
  exact (show _ = Result.ok (Value.bool ((a.toNat : Int) == b.toNat)) w from rfl).trans (by rw [e])
theorem Yld.neq_u16 {x y : Operand} {t t' : TypeId} {a b : UInt16} (hx : L.ev x = some (vU16 a)) (hy : L.ev y = some (vU16 b)) :
    Yld P ⟨dst, .binOp .neq t x y t', ty, pos, aft, g⟩ L hs (.bool (decide (a ≠ b))) := Yld.bin hx hy fun w => by
  have e : ((a.toNat : Int) != b.toNat) = decide (a ≠ b) := by
    rw [Bool.eq_iff_iff]
    simp only [beq_iff_eq, bne_iff_ne, decide_eq_true_eq, ne_eq, ← UInt16.toNat_inj, UInt16.lt_iff_toNat_lt, UInt16.le_iff_toNat_le]
    omega
  exact (show _ = Result.ok (Value.bool ((a.toNat : Int) != b.toNat)) w from rfl).trans (by rw [e])
theorem Yld.lss_u16 {x y : Operand} {t t' : TypeId} {a b : UInt16} (hx : L.ev x = some (vU16 a)) (hy : L.ev y = some (vU16 b)) :
    Yld P ⟨dst, .binOp .lss t x y t', ty, pos, aft, g⟩ L hs (.bool (decide (a < b))) := Yld.bin hx hy fun w => by
  have e : (decide ((a.toNat : Int) < b.toNat)) = decide (a < b) := by
    rw [Bool.eq_iff_iff]
    simp only [beq_iff_eq, bne_iff_ne, decide_eq_true_eq, ne_eq, ← UInt16.toNat_inj, UInt16.lt_iff_toNat_lt, UInt16.le_iff_toNat_le]
    omega
  exact (show _ = Result.ok (Value.bool (decide ((a.toNat : Int) < b.toNat))) w from rfl).trans (by rw [e])
theorem Yld.leq_u16 {x y : Operand} {t t' : TypeId} {a b : UInt16} (hx : L.ev x = some (vU16 a)) (hy : L.ev y = some (vU16 b)) :
    Yld P ⟨dst, .binOp .leq t x y t', ty, pos, aft, g⟩ L hs (.bool (decide (a ≤ b))) := Yld.bin hx hy fun w => by
  have e : (decide ((a.toNat : Int) ≤ b.toNat)) = decide (a ≤ b) := by
    rw [Bool.eq_iff_iff]
    simp only [beq_iff_eq, bne_iff_ne, decide_eq_true_eq, ne_eq, ← UInt16.toNat_inj, UInt16.lt_iff_toNat_lt, UInt16.le_iff_toNat_le]
    omega
  exact (show _ = Result.ok (Value.bool (decide ((a.toNat : Int) ≤ b.toNat))) w from rfl).trans (by rw [e])
theorem Yld.gtr_u16 {x y : Operand} {t t' : TypeId} {a b : UInt16} (hx : L.ev x = some (vU16 a)) (hy : L.ev y = some (vU16 b)) :
    Yld P ⟨dst, .binOp .gtr t x y t', ty, pos, aft, g⟩ L hs (.bool (decide (b < a))) := Yld.bin hx hy fun w => by
  have e : (decide ((a.toNat : Int) > b.toNat)) = decide (b < a) := by
    rw [Bool.eq_iff_iff]
    simp only [beq_iff_eq, bne_iff_ne, decide_eq_true_eq, ne_eq, ← UInt16.toNat_inj, UInt16.lt_iff_toNat_lt, UInt16.le_iff_toNat_le]
    omega
  exact (show _ = Result.ok (Value.bool (decide ((a.toNat : Int) > b.toNat))) w from rfl).trans (by rw [e])
theorem Yld.geq_u16 {x y : Operand} {t t' : TypeId} {a b : UInt16} (hx : L.ev x = some (vU16 a)) (hy : L.ev y = some (vU16 b)) :
    Yld P ⟨dst, .binOp .geq t x y t', ty, pos, aft, g⟩ L hs (.bool (decide (b ≤ a))) := Yld.bin hx hy fun w => by
  have e : (decide ((a.toNat : Int) ≥ b.toNat)) = decide (b ≤ a) := by
    rw [Bool.eq_iff_iff]
    simp only [beq_iff_eq, bne_iff_ne, decide_eq_true_eq, ne_eq, ← UInt16.toNat_inj, UInt16.lt_iff_toNat_lt, UInt16.le_iff_toNat_le]
    omega
  exact (show _ = Result.ok (Value.bool (decide ((a.toNat : Int) ≥ b.toNat))) w from rfl).trans (by rw [e])
theorem Yld.and_u16 {x y : Operand} {t t' : TypeId} {a b : UInt16} (hx : L.ev x = some (vU16 a)) (hy : L.ev y = some (vU16 b)) :
    Yld P ⟨dst, .binOp .and t x y t', ty, pos, aft, g⟩ L hs (vU16 (a &&& b)) := Yld.bin hx hy fun w => by
  have e1 : (BitVec.ofInt 16 (a.toNat : Int)) = a.toBitVec := by apply BitVec.eq_of_toNat_eq; simp
  have e2 : (BitVec.ofInt 16 (b.toNat : Int)) = b.toBitVec := by apply BitVec.eq_of_toNat_eq; simp
  have e : IntKind.u16.wrap ((BitVec.ofInt 16 (a.toNat : Int) &&& BitVec.ofInt 16 (b.toNat : Int)).toNat : Int) = ((a &&& b).toNat : Int) := by
    rw [e1, e2]
    have hlt : (a.toBitVec &&& b.toBitVec).toNat < 65536 := (a.toBitVec &&& b.toBitVec).isLt
    rw [wrap_u16, Int.emod_eq_of_lt (by omega) (by omega)]; rfl
  exact (show _ = Result.ok (Value.int .u16 (IntKind.u16.wrap ((BitVec.ofInt 16 (a.toNat : Int) &&& BitVec.ofInt 16 (b.toNat : Int)).toNat : Int))) w from rfl).trans (by rw [e])
theorem Yld.or_u16 {x y : Operand} {t t' : TypeId} {a b : UInt16} (hx : L.ev x = some (vU16 a)) (hy : L.ev y = some (vU16 b)) :
    Yld P ⟨dst, .binOp .or t x y t', ty, pos, aft, g⟩ L hs (vU16 (a ||| b)) := Yld.bin hx hy fun w => by
  have e1 : (BitVec.ofInt 16 (a.toNat : Int)) = a.toBitVec := by apply BitVec.eq_of_toNat_eq; simp
  have e2 : (BitVec.ofInt 16 (b.toNat : Int)) = b.toBitVec := by apply BitVec.eq_of_toNat_eq; simp
  have e : IntKind.u16.wrap ((BitVec.ofInt 16 (a.toNat : Int) ||| BitVec.ofInt 16 (b.toNat : Int)).toNat : Int) = ((a ||| b).toNat : Int) := by
    rw [e1, e2]
    have hlt : (a.toBitVec ||| b.toBitVec).toNat < 65536 := (a.toBitVec ||| b.toBitVec).isLt
    rw [wrap_u16, Int.emod_eq_of_lt (by omega) (by omega)]; rfl
  exact (show _ = Result.ok (Value.int .u16 (IntKind.u16.wrap ((BitVec.ofInt 16 (a.toNat : Int) ||| BitVec.ofInt 16 (b.toNat : Int)).toNat : Int))) w from rfl).trans (by rw [e])
theorem Yld.xor_u16 {x y : Operand} {t t' : TypeId} {a b : UInt16} (hx : L.ev x = some (vU16 a)) (hy : L.ev y = some (vU16 b)) :
    Yld P ⟨dst, .binOp .xor t x y t', ty, pos, aft, g⟩ L hs (vU16 (a ^^^ b)) := Yld.bin hx hy fun w => by
  have e1 : (BitVec.ofInt 16 (a.toNat : Int)) = a.toBitVec := by apply BitVec.eq_of_toNat_eq; simp
  have e2 : (BitVec.ofInt 16 (b.toNat : Int)) = b.toBitVec := by apply BitVec.eq_of_toNat_eq; simp
  have e : IntKind.u16.wrap ((BitVec.ofInt 16 (a.toNat : Int) ^^^ BitVec.ofInt 16 (b.toNat : Int)).toNat : Int) = ((a ^^^ b).toNat : Int) := by
    rw [e1, e2]
    have hlt : (a.toBitVec ^^^ b.toBitVec).toNat < 65536 := (a.toBitVec ^^^ b.toBitVec).isLt
    rw [wrap_u16, Int.emod_eq_of_lt (by omega) (by omega)]; rfl
  exact (show _ = Result.ok (Value.int .u16 (IntKind.u16.wrap ((BitVec.ofInt 16 (a.toNat : Int) ^^^ BitVec.ofInt 16 (b.toNat : Int)).toNat : Int))) w from rfl).trans (by rw [e])

theorem wrap_u32 (n : Int) : IntKind.u32.wrap n = n % 4294967296 := by rw [wrap_u _ rfl]; rfl
theorem u32_lt (x : UInt32) : x.toNat < 4294967296 := x.toNat_lt
theorem Yld.add_u32 {x y : Operand} {t t' : TypeId} {a b : UInt32} (hx : L.ev x = some (vU32 a)) (hy : L.ev y = some (vU32 b)) :
    Yld P ⟨dst, .binOp .add t x y t', ty, pos, aft, g⟩ L hs (vU32 (a + b)) := Yld.bin hx hy fun w => by
  have e : IntKind.u32.wrap ((a.toNat : Int) + b.toNat) = ((a + b).toNat : Int) := by rw [wrap_u32, UInt32.toNat_add]; omega
  exact (show _ = Result.ok (Value.int .u32 (IntKind.u32.wrap ((a.toNat : Int) + b.toNat))) w from rfl).trans (by rw [e])
theorem Yld.sub_u32 {x y : Operand} {t t' : TypeId} {a b : UInt32} (hx : L.ev x = some (vU32 a)) (hy : L.ev y = some (vU32 b)) :
    Yld P ⟨dst, .binOp .sub t x y t', ty, pos, aft, g⟩ L hs (vU32 (a - b)) := Yld.bin hx hy fun w => by
  have e : IntKind.u32.wrap ((a.toNat : Int) - b.toNat) = ((a - b).toNat : Int) := by have ha := u32_lt a; have hb := u32_lt b; rw [wrap_u32, UInt32.toNat_sub]; omega
  exact (show _ = Result.ok (Value.int .u32 (IntKind.u32.wrap ((a.toNat : Int) - b.toNat))) w from rfl).trans (by rw [e])
theorem Yld.mul_u32 {x y : Operand} {t t' : TypeId} {a b : UInt32} (hx : L.ev x = some (vU32 a)) (hy : L.ev y = some (vU32 b)) :
    Yld P ⟨dst, .binOp .mul t x y t', ty, pos, aft, g⟩ L hs (vU32 (a * b)) := Yld.bin hx hy fun w => by
  have e : IntKind.u32.wrap ((a.toNat : Int) * b.toNat) = ((a * b).toNat : Int) := by rw [wrap_u32, UInt32.toNat_mul]; simp
  exact (show _ = Result.ok (Value.int .u32 (IntKind.u32.wrap ((a.toNat : Int) * b.toNat))) w from rfl).trans (by rw [e])
theorem Yld.eql_u32 {x y : Operand} {t t' : TypeId} {a b : UInt32} (hx : L.ev x = some (vU32 a)) (hy : L.ev y = some (vU32 b)) :
    Yld P ⟨dst, .binOp .eql t x y t', ty, pos, aft, g⟩ L hs (.bool (decide (a = b))) := Yld.bin hx hy fun w => by
  have e : ((a.toNat : Int) == b.toNat) = decide (a = b) := by
    rw [Bool.eq_iff_iff]
    simp only [beq_iff_eq, bne_iff_ne, decide_eq_true_eq, ne_eq, ← UInt32.toNat_inj, UInt32.lt_iff_toNat_lt, UInt32.le_iff_toNat_le]
    omega
  exact (show _ = Result.ok (Value.bool ((a.toNat : Int) == b.toNat)) w from rfl).trans (by rw [e])
theorem Yld.neq_u32 {x y : Operand} {t t' : TypeId} {a b : UInt32} (hx : L.ev x = some (vU32 a)) (hy : L.ev y = some (vU32 b)) :
    Yld P ⟨dst, .binOp .neq t x y t', ty, pos, aft, g⟩ L hs (.bool (decide (a ≠ b))) := Yld.bin hx hy fun w => by
  have e : ((a.toNat : Int) != b.toNat) = decide (a ≠ b) := by
    rw [Bool.eq_iff_iff]
    simp only [beq_iff_eq, bne_iff_ne, decide_eq_true_eq, ne_eq, ← UInt32.toNat_inj, UInt32.lt_iff_toNat_lt, UInt32.le_iff_toNat_le]
    omega
  exact (show _ = Result.ok (Value.bool ((a.toNat : Int) != b.toNat)) w from rfl).trans (by rw [e])
theorem Yld.lss_u32 {x y : Operand} {t t' : TypeId} {a b : UInt32} (hx : L.ev x = some (vU32 a)) (hy : L.ev y = some (vU32 b)) :
    Yld P ⟨dst, .binOp .lss t x y t', ty, pos, aft, g⟩ L hs (.bool (decide (a < b))) := Yld.bin hx hy fun w => by
  have e : (decide ((a.toNat : Int) < b.toNat)) = decide (a < b) := by
    rw [Bool.eq_iff_iff]
    simp only [beq_iff_eq, bne_iff_ne, decide_eq_true_eq, ne_eq, ← UInt32.toNat_inj, UInt32.lt_iff_toNat_lt, UInt32.le_iff_toNat_le]
    omega
  exact (show _ = Result.ok (Value.bool (decide ((a.toNat : Int) < b.toNat))) w from rfl).trans (by rw [e])
theorem Yld.leq_u32 {x y : Operand} {t t' : TypeId} {a b : UInt32} (hx : L.ev x = some (vU32 a)) (hy : L.ev y = some (vU32 b)) :
    Yld P ⟨dst, .binOp .leq t x y t', ty, pos, aft, g⟩ L hs (.bool (decide (a ≤ b))) := Yld.bin hx hy fun w => by
  have e : (decide ((a.toNat : Int) ≤ b.toNat)) = decide (a ≤ b) := by
    rw [Bool.eq_iff_iff]
    simp only [beq_iff_eq, bne_iff_ne, decide_eq_true_eq, ne_eq, ← UInt32.toNat_inj, UInt32.lt_iff_toNat_lt, UInt32.le_iff_toNat_le]
    omega
  exact (show _ = Result.ok (Value.bool (decide ((a.toNat : Int) ≤ b.toNat))) w from rfl).trans (by rw [e])
theorem Yld.gtr_u32 {x y : Operand} {t t' : TypeId} {a b : UInt32} (hx : L.ev x = some (vU32 a)) (hy : L.ev y = some (vU32 b)) :
    Yld P ⟨dst, .binOp .gtr t x y t', ty, pos, aft, g⟩ L hs (.bool (decide (b < a))) := Yld.bin hx hy fun w => by
  have e : (decide ((a.toNat : Int) > b.toNat)) = decide (b < a) := by
    rw [Bool.eq_iff_iff]
    simp only [beq_iff_eq, bne_iff_ne, decide_eq_true_eq, ne_eq, ← UInt32.toNat_inj, UInt32.lt_iff_toNat_lt, UInt32.le_iff_toNat_le]
    omega
  exact (show _ = Result.ok (Value.bool (decide ((a.toNat : Int) > b.toNat))) w from rfl).trans (by rw [e])
theorem Yld.geq_u32 {x y : Operand} {t t' : TypeId} {a b : UInt32} (hx : L.ev x = some (vU32 a)) (hy : L.ev y = some (vU32 b)) :
    Yld P ⟨dst, .binOp .geq t x y t', ty, pos, aft, g⟩ L hs (.bool (decide (b ≤ a))) := Yld.bin hx hy fun w => by
  have e : (decide ((a.toNat : Int) ≥ b.toNat)) = decide (b ≤ a) := by
    rw [Bool.eq_iff_iff]
    simp only [beq_iff_eq, bne_iff_ne, decide_eq_true_eq, ne_eq, ← UInt32.toNat_inj, UInt32.lt_iff_toNat_lt, UInt32.le_iff_toNat_le]
    omega
  exact (show _ = Result.ok (Value.bool (decide ((a.toNat : Int) ≥ b.toNat))) w from rfl).trans (by rw [e])
theorem Yld.and_u32 {x y : Operand} {t t' : TypeId} {a b : UInt32} (hx : L.ev x = some (vU32 a)) (hy : L.ev y = some (vU32 b)) :
    Yld P ⟨dst, .binOp .and t x y t', ty, pos, aft, g⟩ L hs (vU32 (a &&& b)) := Yld.bin hx hy fun w => by
  have e1 : (BitVec.ofInt 32 (a.toNat : Int)) = a.toBitVec := by apply BitVec.eq_of_toNat_eq; simp
  have e2 : (BitVec.ofInt 32 (b.toNat : Int)) = b.toBitVec := by apply BitVec.eq_of_toNat_eq; simp
  have e : IntKind.u32.wrap ((BitVec.ofInt 32 (a.toNat : Int) &&& BitVec.ofInt 32 (b.toNat : Int)).toNat : Int) = ((a &&& b).toNat : Int) := by
    rw [e1, e2]
    have hlt : (a.toBitVec &&& b.toBitVec).toNat < 4294967296 := (a.toBitVec &&& b.toBitVec).isLt
    rw [wrap_u32, Int.emod_eq_of_lt (by omega) (by omega)]; rfl
  exact (show _ = Result.ok (Value.int .u32 (IntKind.u32.wrap ((BitVec.ofInt 32 (a.toNat : Int) &&& BitVec.ofInt 32 (b.toNat : Int)).toNat : Int))) w from rfl).trans (by rw [e])
theorem Yld.or_u32 {x y : Operand} {t t' : TypeId} {a b : UInt32} (hx : L.ev x = some (vU32 a)) (hy : L.ev y = some (vU32 b)) :
    Yld P ⟨dst, .binOp .or t x y t', ty, pos, aft, g⟩ L hs (vU32 (a ||| b)) := Yld.bin hx hy fun w => by
  have e1 : (BitVec.ofInt 32 (a.toNat : Int)) = a.toBitVec := by apply BitVec.eq_of_toNat_eq; simp
  have e2 : (BitVec.ofInt 32 (b.toNat : Int)) = b.toBitVec := by apply BitVec.eq_of_toNat_eq; simp
  have e : IntKind.u32.wrap ((BitVec.ofInt 32 (a.toNat : Int) ||| BitVec.ofInt 32 (b.toNat : Int)).toNat : Int) = ((a ||| b).toNat : Int) := by
    rw [e1, e2]
    have hlt : (a.toBitVec ||| b.toBitVec).toNat < 4294967296 := (a.toBitVec ||| b.toBitVec).isLt
    rw [wrap_u32, Int.emod_eq_of_lt (by omega) (by omega)]; rfl
  exact (show _ = Result.ok (Value.int .u32 (IntKind.u32.wrap ((BitVec.ofInt 32 (a.toNat : Int) ||| BitVec.ofInt 32 (b.toNat : Int)).toNat : Int))) w from rfl).trans (by rw [e])
theorem Yld.xor_u32 {x y : Operand} {t t' : TypeId} {a b : UInt32} (hx : L.ev x = some (vU32 a)) (hy : L.ev y = some (vU32 b)) :
    Yld P ⟨dst, .binOp .xor t x y t', ty, pos, aft, g⟩ L hs (vU32 (a ^^^ b)) := Yld.bin hx hy fun w => by
  have e1 : (BitVec.ofInt 32 (a.toNat : Int)) = a.toBitVec := by apply BitVec.eq_of_toNat_eq; simp
  have e2 : (BitVec.ofInt 32 (b.toNat : Int)) = b.toBitVec := by apply BitVec.eq_of_toNat_eq; simp
  have e : IntKind.u32.wrap ((BitVec.ofInt 32 (a.toNat : Int) ^^^ BitVec.ofInt 32 (b.toNat : Int)).toNat : Int) = ((a ^^^ b).toNat : Int) := by
    rw [e1, e2]
    have hlt : (a.toBitVec ^^^ b.toBitVec).toNat < 4294967296 := (a.toBitVec ^^^ b.toBitVec).isLt
    rw [wrap_u32, Int.emod_eq_of_lt (by omega) (by omega)]; rfl
  exact (show _ = Result.ok (Value.int .u32 (IntKind.u32.wrap ((BitVec.ofInt 32 (a.toNat : Int) ^^^ BitVec.ofInt 32 (b.toNat : Int)).toNat : Int))) w from rfl).trans (by rw [e])

theorem wrap_u64 (n : Int) : IntKind.u64.wrap n = n % 18446744073709551616 := by rw [wrap_u _ rfl]; rfl
theorem u64_lt (x : UInt64) : x.toNat < 18446744073709551616 := x.toNat_lt
theorem Yld.add_u64 {x y : Operand} {t t' : TypeId} {a b : UInt64} (hx : L.ev x = some (vU64 a)) (hy : L.ev y = some (vU64 b)) :
    Yld P ⟨dst, .binOp .add t x y t', ty, pos, aft, g⟩ L hs (vU64 (a + b)) := Yld.bin hx hy fun w => by
  have e : IntKind.u64.wrap ((a.toNat : Int) + b.toNat) = ((a + b).toNat : Int) := by rw [wrap_u64, UInt64.toNat_add]; omega
  exact (show _ = Result.ok (Value.int .u64 (IntKind.u64.wrap ((a.toNat : Int) + b.toNat))) w from rfl).trans (by rw [e])
theorem Yld.sub_u64 {x y : Operand} {t t' : TypeId} {a b : UInt64} (hx : L.ev x = some (vU64 a)) (hy : L.ev y = some (vU64 b)) :
    Yld P ⟨dst, .binOp .sub t x y t', ty, pos, aft, g⟩ L hs (vU64 (a - b)) := Yld.bin hx hy fun w => by
  have e : IntKind.u64.wrap ((a.toNat : Int) - b.toNat) = ((a - b).toNat : Int) := by have ha := u64_lt a; have hb := u64_lt b; rw [wrap_u64, UInt64.toNat_sub]; omega
  exact (show _ = Result.ok (Value.int .u64 (IntKind.u64.wrap ((a.toNat : Int) - b.toNat))) w from rfl).trans (by rw [e])
theorem Yld.mul_u64 {x y : Operand} {t t' : TypeId} {a b : UInt64} (hx : L.ev x = some (vU64 a)) (hy : L.ev y = some (vU64 b)) :
    Yld P ⟨dst, .binOp .mul t x y t', ty, pos, aft, g⟩ L hs (vU64 (a * b)) := Yld.bin hx hy fun w => by
  have e : IntKind.u64.wrap ((a.toNat : Int) * b.toNat) = ((a * b).toNat : Int) := by rw [wrap_u64, UInt64.toNat_mul]; simp
  exact (show _ = Result.ok (Value.int .u64 (IntKind.u64.wrap ((a.toNat : Int) * b.toNat))) w from rfl).trans (by rw [e])
theorem Yld.eql_u64 {x y : Operand} {t t' : TypeId} {a b : UInt64} (hx : L.ev x = some (vU64 a)) (hy : L.ev y = some (vU64 b)) :
    Yld P ⟨dst, .binOp .eql t x y t', ty, pos, aft, g⟩ L hs (.bool (decide (a = b))) := Yld.bin hx hy fun w => by
  have e : ((a.toNat : Int) == b.toNat) = decide (a = b) := by
    rw [Bool.eq_iff_iff]
    simp only [beq_iff_eq, bne_iff_ne, decide_eq_true_eq, ne_eq, ← UInt64.toNat_inj, UInt64.lt_iff_toNat_lt, UInt64.le_iff_toNat_le]
    omega
  exact (show _ = Result.ok (Value.bool ((a.toNat : Int) == b.toNat)) w from rfl).trans (by rw [e])
theorem Yld.neq_u64 {x y : Operand} {t t' : TypeId} {a b : UInt64} (hx : L.ev x = some (vU64 a)) (hy : L.ev y = some (vU64 b)) :
    Yld P ⟨dst, .binOp .neq t x y t', ty, pos, aft, g⟩ L hs (.bool (decide (a ≠ b))) := Yld.bin hx hy fun w => by
  have e : ((a.toNat : Int) != b.toNat) = decide (a ≠ b) := by
    rw [Bool.eq_iff_iff]
    simp only [beq_iff_eq, bne_iff_ne, decide_eq_true_eq, ne_eq, ← UInt64.toNat_inj, UInt64.lt_iff_toNat_lt, UInt64.le_iff_toNat_le]
    omega
  exact (show _ = Result.ok (Value.bool ((a.toNat : Int) != b.toNat)) w from rfl).trans (by rw [e])
theorem Yld.lss_u64 {x y : Operand} {t t' : TypeId} {a b : UInt64} (hx : L.ev x = some (vU64 a)) (hy : L.ev y = some (vU64 b)) :
    Yld P ⟨dst, .binOp .lss t x y t', ty, pos, aft, g⟩ L hs (.bool (decide (a < b))) := Yld.bin hx hy fun w => by
  have e : (decide ((a.toNat : Int) < b.toNat)) = decide (a < b) := by
    rw [Bool.eq_iff_iff]
    simp only [beq_iff_eq, bne_iff_ne, decide_eq_true_eq, ne_eq, ← UInt64.toNat_inj, UInt64.lt_iff_toNat_lt, UInt64.le_iff_toNat_le]
    omega
  exact (show _ = Result.ok (Value.bool (decide ((a.toNat : Int) < b.toNat))) w from rfl).trans (by rw [e])
theorem Yld.leq_u64 {x y : Operand} {t t' : TypeId} {a b : UInt64} (hx : L.ev x = some (vU64 a)) (hy : L.ev y = some (vU64 b)) :
    Yld P ⟨dst, .binOp .leq t x y t', ty, pos, aft, g⟩ L hs (.bool (decide (a ≤ b))) := Yld.bin hx hy fun w => by
  have e : (decide ((a.toNat : Int) ≤ b.toNat)) = decide (a ≤ b) := by
    rw [Bool.eq_iff_iff]
    simp only [beq_iff_eq, bne_iff_ne, decide_eq_true_eq, ne_eq, ← UInt64.toNat_inj, UInt64.lt_iff_toNat_lt, UInt64.le_iff_toNat_le]
    omega
  exact (show _ = Result.ok (Value.bool (decide ((a.toNat : Int) ≤ b.toNat))) w from rfl).trans (by rw [e])
theorem Yld.gtr_u64 {x y : Operand} {t t' : TypeId} {a b : UInt64} (hx : L.ev x = some (vU64 a)) (hy : L.ev y = some (vU64 b)) :
    Yld P ⟨dst, .binOp .gtr t x y t', ty, pos, aft, g⟩ L hs (.bool (decide (b < a))) := Yld.bin hx hy fun w => by
  have e : (decide ((a.toNat : Int) > b.toNat)) = decide (b < a) := by
    rw [Bool.eq_iff_iff]
    simp only [beq_iff_eq, bne_iff_ne, decide_eq_true_eq, ne_eq, ← UInt64.toNat_inj, UInt64.lt_iff_toNat_lt, UInt64.le_iff_toNat_le]
    omega
  exact (show _ = Result.ok (Value.bool (decide ((a.toNat : Int) > b.toNat))) w from rfl).trans (by rw [e])
theorem Yld.geq_u64 {x y : Operand} {t t' : TypeId} {a b : UInt64} (hx : L.ev x = some (vU64 a)) (hy : L.ev y = some (vU64 b)) :
    Yld P ⟨dst, .binOp .geq t x y t', ty, pos, aft, g⟩ L hs (.bool (decide (b ≤ a))) := Yld.bin hx hy fun w => by
  have e : (decide ((a.toNat : Int) ≥ b.toNat)) = decide (b ≤ a) := by
    rw [Bool.eq_iff_iff]
    simp only [beq_iff_eq, bne_iff_ne, decide_eq_true_eq, ne_eq, ← UInt64.toNat_inj, UInt64.lt_iff_toNat_lt, UInt64.le_iff_toNat_le]
    omega
  exact (show _ = Result.ok (Value.bool (decide ((a.toNat : Int) ≥ b.toNat))) w from rfl).trans (by rw [e])
theorem Yld.and_u64 {x y : Operand} {t t' : TypeId} {a b : UInt64} (hx : L.ev x = some (vU64 a)) (hy : L.ev y = some (vU64 b)) :
    Yld P ⟨dst, .binOp .and t x y t', ty, pos, aft, g⟩ L hs (vU64 (a &&& b)) := Yld.bin hx hy fun w => by
  have e1 : (BitVec.ofInt 64 (a.toNat : Int)) = a.toBitVec := by apply BitVec.eq_of_toNat_eq; simp
  have e2 : (BitVec.ofInt 64 (b.toNat : Int)) = b.toBitVec := by apply BitVec.eq_of_toNat_eq; simp
  have e : IntKind.u64.wrap ((BitVec.ofInt 64 (a.toNat : Int) &&& BitVec.ofInt 64 (b.toNat : Int)).toNat : Int) = ((a &&& b).toNat : Int) := by
    rw [e1, e2]
    have hlt : (a.toBitVec &&& b.toBitVec).toNat < 18446744073709551616 := (a.toBitVec &&& b.toBitVec).isLt
    rw [wrap_u64, Int.emod_eq_of_lt (by omega) (by omega)]; rfl
  exact (show _ = Result.ok (Value.int .u64 (IntKind.u64.wrap ((BitVec.ofInt 64 (a.toNat : Int) &&& BitVec.ofInt 64 (b.toNat : Int)).toNat : Int))) w from rfl).trans (by rw [e])
theorem Yld.or_u64 {x y : Operand} {t t' : TypeId} {a b : UInt64} (hx : L.ev x = some (vU64 a)) (hy : L.ev y = some (vU64 b)) :
    Yld P ⟨dst, .binOp .or t x y t', ty, pos, aft, g⟩ L hs (vU64 (a ||| b)) := Yld.bin hx hy fun w => by
  have e1 : (BitVec.ofInt 64 (a.toNat : Int)) = a.toBitVec := by apply BitVec.eq_of_toNat_eq; simp
  have e2 : (BitVec.ofInt 64 (b.toNat : Int)) = b.toBitVec := by apply BitVec.eq_of_toNat_eq; simp
  have e : IntKind.u64.wrap ((BitVec.ofInt 64 (a.toNat : Int) ||| BitVec.ofInt 64 (b.toNat : Int)).toNat : Int) = ((a ||| b).toNat : Int) := by
    rw [e1, e2]
    have hlt : (a.toBitVec ||| b.toBitVec).toNat < 18446744073709551616 := (a.toBitVec ||| b.toBitVec).isLt
    rw [wrap_u64, Int.emod_eq_of_lt (by omega) (by omega)]; rfl
  exact (show _ = Result.ok (Value.int .u64 (IntKind.u64.wrap ((BitVec.ofInt 64 (a.toNat : Int) ||| BitVec.ofInt 64 (b.toNat : Int)).toNat : Int))) w from rfl).trans (by rw [e])
theorem Yld.xor_u64 {x y : Operand} {t t' : TypeId} {a b : UInt64} (hx : L.ev x = some (vU64 a)) (hy : L.ev y = some (vU64 b)) :
    Yld P ⟨dst, .binOp .xor t x y t', ty, pos, aft, g⟩ L hs (vU64 (a ^^^ b)) := Yld.bin hx hy fun w => by
  have e1 : (BitVec.ofInt 64 (a.toNat : Int)) = a.toBitVec := by apply BitVec.eq_of_toNat_eq; simp
  have e2 : (BitVec.ofInt 64 (b.toNat : Int)) = b.toBitVec := by apply BitVec.eq_of_toNat_eq; simp
  have e : IntKind.u64.wrap ((BitVec.ofInt 64 (a.toNat : Int) ^^^ BitVec.ofInt 64 (b.toNat : Int)).toNat : Int) = ((a ^^^ b).toNat : Int) := by
    rw [e1, e2]
    have hlt : (a.toBitVec ^^^ b.toBitVec).toNat < 18446744073709551616 := (a.toBitVec ^^^ b.toBitVec).isLt
    rw [wrap_u64, Int.emod_eq_of_lt (by omega) (by omega)]; rfl
  exact (show _ = Result.ok (Value.int .u64 (IntKind.u64.wrap ((BitVec.ofInt 64 (a.toNat : Int) ^^^ BitVec.ofInt 64 (b.toNat : Int)).toNat : Int))) w from rfl).trans (by rw [e])

/-! #### int -/
theorem wrap_i64 {n : Int} (h : -9223372036854775808 ≤ n ∧ n < 9223372036854775808) : IntKind.i64.wrap n = n := by
  have hb : IntKind.i64.bits = 64 := rfl
  have hs : IntKind.i64.signed = true := rfl
  simp only [IntKind.wrap, hb, hs, Bool.true_and, decide_eq_true_eq]
  have e1 : (2 ^ 64 : Int) = 18446744073709551616 := rfl
  have e2 : (2 ^ (64 - 1) : Int) = 9223372036854775808 := rfl
  rw [e1, e2]; split <;> omega
theorem Yld.add_i {x y : Operand} {t t' : TypeId} {a b : Int} (hx : L.ev x = some (vI a)) (hy : L.ev y = some (vI b)) (h : -9223372036854775808 ≤ a + b ∧ a + b < 9223372036854775808) :
    Yld P ⟨dst, .binOp .add t x y t', ty, pos, aft, g⟩ L hs (vI (a + b)) := Yld.bin hx hy fun w => by
  have e := wrap_i64 h
  exact (show _ = Result.ok (Value.int .i64 (IntKind.i64.wrap (a + b))) w from rfl).trans (by rw [e])
theorem Yld.sub_i {x y : Operand} {t t' : TypeId} {a b : Int} (hx : L.ev x = some (vI a)) (hy : L.ev y = some (vI b)) (h : -9223372036854775808 ≤ a - b ∧ a - b < 9223372036854775808) :
    Yld P ⟨dst, .binOp .sub t x y t', ty, pos, aft, g⟩ L hs (vI (a - b)) := Yld.bin hx hy fun w => by
  have e := wrap_i64 h
  exact (show _ = Result.ok (Value.int .i64 (IntKind.i64.wrap (a - b))) w from rfl).trans (by rw [e])
theorem Yld.mul_i {x y : Operand} {t t' : TypeId} {a b : Int} (hx : L.ev x = some (vI a)) (hy : L.ev y = some (vI b)) (h : -9223372036854775808 ≤ a * b ∧ a * b < 9223372036854775808) :
    Yld P ⟨dst, .binOp .mul t x y t', ty, pos, aft, g⟩ L hs (vI (a * b)) := Yld.bin hx hy fun w => by
  have e := wrap_i64 h
  exact (show _ = Result.ok (Value.int .i64 (IntKind.i64.wrap (a * b))) w from rfl).trans (by rw [e])
theorem Yld.eql_i {x y : Operand} {t t' : TypeId} {a b : Int} (hx : L.ev x = some (vI a)) (hy : L.ev y = some (vI b)) :
    Yld P ⟨dst, .binOp .eql t x y t', ty, pos, aft, g⟩ L hs (.bool (decide (a = b))) := Yld.bin hx hy fun w => by
  have e : (a == b) = decide (a = b) := by
    first
      | rfl
      | (rw [Bool.eq_iff_iff]; simp only [beq_iff_eq, bne_iff_ne, decide_eq_true_eq, ne_eq])
  exact (show _ = Result.ok (Value.bool (a == b)) w from rfl).trans (by rw [e])
theorem Yld.neq_i {x y : Operand} {t t' : TypeId} {a b : Int} (hx : L.ev x = some (vI a)) (hy : L.ev y = some (vI b)) :
    Yld P ⟨dst, .binOp .neq t x y t', ty, pos, aft, g⟩ L hs (.bool (decide (a ≠ b))) := Yld.bin hx hy fun w => by
  have e : (a != b) = decide (a ≠ b) := by
    first
      | rfl
      | (rw [Bool.eq_iff_iff]; simp only [beq_iff_eq, bne_iff_ne, decide_eq_true_eq, ne_eq])
  exact (show _ = Result.ok (Value.bool (a != b)) w from rfl).trans (by rw [e])
theorem Yld.lss_i {x y : Operand} {t t' : TypeId} {a b : Int} (hx : L.ev x = some (vI a)) (hy : L.ev y = some (vI b)) :
    Yld P ⟨dst, .binOp .lss t x y t', ty, pos, aft, g⟩ L hs (.bool (decide (a < b))) := Yld.bin hx hy fun w => by
  have e : (decide (a < b)) = decide (a < b) := by
    first
      | rfl
      | (rw [Bool.eq_iff_iff]; simp only [beq_iff_eq, bne_iff_ne, decide_eq_true_eq, ne_eq])
  exact (show _ = Result.ok (Value.bool (decide (a < b))) w from rfl).trans (by rw [e])
theorem Yld.leq_i {x y : Operand} {t t' : TypeId} {a b : Int} (hx : L.ev x = some (vI a)) (hy : L.ev y = some (vI b)) :
    Yld P ⟨dst, .binOp .leq t x y t', ty, pos, aft, g⟩ L hs (.bool (decide (a ≤ b))) := Yld.bin hx hy fun w => by
  have e : (decide (a ≤ b)) = decide (a ≤ b) := by
    first
      | rfl
      | (rw [Bool.eq_iff_iff]; simp only [beq_iff_eq, bne_iff_ne, decide_eq_true_eq, ne_eq])
  exact (show _ = Result.ok (Value.bool (decide (a ≤ b))) w from rfl).trans (by rw [e])
theorem Yld.gtr_i {x y : Operand} {t t' : TypeId} {a b : Int} (hx : L.ev x = some (vI a)) (hy : L.ev y = some (vI b)) :
    Yld P ⟨dst, .binOp .gtr t x y t', ty, pos, aft, g⟩ L hs (.bool (decide (b < a))) := Yld.bin hx hy fun w => by
  have e : (decide (a > b)) = decide (b < a) := by
    first
      | rfl
      | (rw [Bool.eq_iff_iff]; simp only [beq_iff_eq, bne_iff_ne, decide_eq_true_eq, ne_eq])
  exact (show _ = Result.ok (Value.bool (decide (a > b))) w from rfl).trans (by rw [e])
theorem Yld.geq_i {x y : Operand} {t t' : TypeId} {a b : Int} (hx : L.ev x = some (vI a)) (hy : L.ev y = some (vI b)) :
    Yld P ⟨dst, .binOp .geq t x y t', ty, pos, aft, g⟩ L hs (.bool (decide (b ≤ a))) := Yld.bin hx hy fun w => by
  have e : (decide (a ≥ b)) = decide (b ≤ a) := by
    first
      | rfl
      | (rw [Bool.eq_iff_iff]; simp only [beq_iff_eq, bne_iff_ne, decide_eq_true_eq, ne_eq])
  exact (show _ = Result.ok (Value.bool (decide (a ≥ b))) w from rfl).trans (by rw [e])
theorem Yld.conv_u8_i {x : Operand} {s d : TypeId} {hs' : List HProp} {a : UInt8} {sd : TypeDesc} (hs : ∀ w, (underlying s).run P w = .ok sd w) (hd : ∀ w, (underlying d).run P w = .ok (.int .i64) w) (hx : L.ev x = some (vU8 a))  :
    Yld P ⟨dst, .convert s d x, ty, pos, aft, g⟩ L hs' (vI a.toNat) := Yld.conv hx fun w => by
  have ha := u8_lt a
  rw [run_conv_int hs hd w, wrap_i64 (by omega)]
theorem Yld.conv_i_u8 {x : Operand} {s d : TypeId} {hs' : List HProp} {a : Int} {sd : TypeDesc} (hs : ∀ w, (underlying s).run P w = .ok sd w) (hd : ∀ w, (underlying d).run P w = .ok (.int .u8) w) (hx : L.ev x = some (vI a)) :
    Yld P ⟨dst, .convert s d x, ty, pos, aft, g⟩ L hs' (vU8 (UInt8.ofNat (a % 256).toNat)) := Yld.conv hx fun w => by
  have hw : IntKind.u8.wrap a = ((UInt8.ofNat (a % 256).toNat).toNat : Int) := by rw [wrap_u8, UInt8.toNat_ofNat_of_lt' (by show (a % 256).toNat < 256; omega)]; omega
  rw [run_conv_int hs hd w, hw]
theorem Yld.conv_u8_u8 {x : Operand} {s d : TypeId} {hs' : List HProp} {a : UInt8} {sd : TypeDesc} (hs : ∀ w, (underlying s).run P w = .ok sd w) (hd : ∀ w, (underlying d).run P w = .ok (.int .u8) w) (hx : L.ev x = some (vU8 a)) :
    Yld P ⟨dst, .convert s d x, ty, pos, aft, g⟩ L hs' (vU8 a) := Yld.conv hx fun w => by
  have ha := u8_lt a
  have hw : IntKind.u8.wrap (a.toNat : Int) = (a.toNat : Int) := by rw [wrap_u8]; omega
  rw [run_conv_int hs hd w, hw]
theorem Yld.conv_u8_u16 {x : Operand} {s d : TypeId} {hs' : List HProp} {a : UInt8} {sd : TypeDesc} (hs : ∀ w, (underlying s).run P w = .ok sd w) (hd : ∀ w, (underlying d).run P w = .ok (.int .u16) w) (hx : L.ev x = some (vU8 a)) :
    Yld P ⟨dst, .convert s d x, ty, pos, aft, g⟩ L hs' (vU16 a.toUInt16) := Yld.conv hx fun w => by
  have ha := u8_lt a
  have hw : IntKind.u16.wrap (a.toNat : Int) = (a.toUInt16.toNat : Int) := by rw [wrap_u16, UInt8.toNat_toUInt16]; omega
  rw [run_conv_int hs hd w, hw]
theorem Yld.conv_u8_u32 {x : Operand} {s d : TypeId} {hs' : List HProp} {a : UInt8} {sd : TypeDesc} (hs : ∀ w, (underlying s).run P w = .ok sd w) (hd : ∀ w, (underlying d).run P w = .ok (.int .u32) w) (hx : L.ev x = some (vU8 a)) :
    Yld P ⟨dst, .convert s d x, ty, pos, aft, g⟩ L hs' (vU32 a.toUInt32) := Yld.conv hx fun w => by
  have ha := u8_lt a
  have hw : IntKind.u32.wrap (a.toNat : Int) = (a.toUInt32.toNat : Int) := by rw [wrap_u32, UInt8.toNat_toUInt32]; omega
  rw [run_conv_int hs hd w, hw]
theorem Yld.conv_u8_u64 {x : Operand} {s d : TypeId} {hs' : List HProp} {a : UInt8} {sd : TypeDesc} (hs : ∀ w, (underlying s).run P w = .ok sd w) (hd : ∀ w, (underlying d).run P w = .ok (.int .u64) w) (hx : L.ev x = some (vU8 a)) :
    Yld P ⟨dst, .convert s d x, ty, pos, aft, g⟩ L hs' (vU64 a.toUInt64) := Yld.conv hx fun w => by
  have ha := u8_lt a
  have hw : IntKind.u64.wrap (a.toNat : Int) = (a.toUInt64.toNat : Int) := by rw [wrap_u64, UInt8.toNat_toUInt64]; omega
  rw [run_conv_int hs hd w, hw]
theorem Yld.conv_u16_i {x : Operand} {s d : TypeId} {hs' : List HProp} {a : UInt16} {sd : TypeDesc} (hs : ∀ w, (underlying s).run P w = .ok sd w) (hd : ∀ w, (underlying d).run P w = .ok (.int .i64) w) (hx : L.ev x = some (vU16 a))  :
    Yld P ⟨dst, .convert s d x, ty, pos, aft, g⟩ L hs' (vI a.toNat) := Yld.conv hx fun w => by
  have ha := u16_lt a
  rw [run_conv_int hs hd w, wrap_i64 (by omega)]
theorem Yld.conv_i_u16 {x : Operand} {s d : TypeId} {hs' : List HProp} {a : Int} {sd : TypeDesc} (hs : ∀ w, (underlying s).run P w = .ok sd w) (hd : ∀ w, (underlying d).run P w = .ok (.int .u16) w) (hx : L.ev x = some (vI a)) :
    Yld P ⟨dst, .convert s d x, ty, pos, aft, g⟩ L hs' (vU16 (UInt16.ofNat (a % 65536).toNat)) := Yld.conv hx fun w => by
  have hw : IntKind.u16.wrap a = ((UInt16.ofNat (a % 65536).toNat).toNat : Int) := by rw [wrap_u16, UInt16.toNat_ofNat_of_lt' (by show (a % 65536).toNat < 65536; omega)]; omega
  rw [run_conv_int hs hd w, hw]
theorem Yld.conv_u16_u8 {x : Operand} {s d : TypeId} {hs' : List HProp} {a : UInt16} {sd : TypeDesc} (hs : ∀ w, (underlying s).run P w = .ok sd w) (hd : ∀ w, (underlying d).run P w = .ok (.int .u8) w) (hx : L.ev x = some (vU16 a)) :
    Yld P ⟨dst, .convert s d x, ty, pos, aft, g⟩ L hs' (vU8 a.toUInt8) := Yld.conv hx fun w => by
  have ha := u16_lt a
  have hw : IntKind.u8.wrap (a.toNat : Int) = (a.toUInt8.toNat : Int) := by rw [wrap_u8, UInt16.toNat_toUInt8]; omega
  rw [run_conv_int hs hd w, hw]
theorem Yld.conv_u16_u16 {x : Operand} {s d : TypeId} {hs' : List HProp} {a : UInt16} {sd : TypeDesc} (hs : ∀ w, (underlying s).run P w = .ok sd w) (hd : ∀ w, (underlying d).run P w = .ok (.int .u16) w) (hx : L.ev x = some (vU16 a)) :
    Yld P ⟨dst, .convert s d x, ty, pos, aft, g⟩ L hs' (vU16 a) := Yld.conv hx fun w => by
  have ha := u16_lt a
  have hw : IntKind.u16.wrap (a.toNat : Int) = (a.toNat : Int) := by rw [wrap_u16]; omega
  rw [run_conv_int hs hd w, hw]
theorem Yld.conv_u16_u32 {x : Operand} {s d : TypeId} {hs' : List HProp} {a : UInt16} {sd : TypeDesc} (hs : ∀ w, (underlying s).run P w = .ok sd w) (hd : ∀ w, (underlying d).run P w = .ok (.int .u32) w) (hx : L.ev x = some (vU16 a)) :
    Yld P ⟨dst, .convert s d x, ty, pos, aft, g⟩ L hs' (vU32 a.toUInt32) := Yld.conv hx fun w => by
  have ha := u16_lt a
  have hw : IntKind.u32.wrap (a.toNat : Int) = (a.toUInt32.toNat : Int) := by rw [wrap_u32, UInt16.toNat_toUInt32]; omega
  rw [run_conv_int hs hd w, hw]
theorem Yld.conv_u16_u64 {x : Operand} {s d : TypeId} {hs' : List HProp} {a : UInt16} {sd : TypeDesc} (hs : ∀ w, (underlying s).run P w = .ok sd w) (hd : ∀ w, (underlying d).run P w = .ok (.int .u64) w) (hx : L.ev x = some (vU16 a)) :
    Yld P ⟨dst, .convert s d x, ty, pos, aft, g⟩ L hs' (vU64 a.toUInt64) := Yld.conv hx fun w => by
  have ha := u16_lt a
  have hw : IntKind.u64.wrap (a.toNat : Int) = (a.toUInt64.toNat : Int) := by rw [wrap_u64, UInt16.toNat_toUInt64]; omega
  rw [run_conv_int hs hd w, hw]
theorem Yld.conv_u32_i {x : Operand} {s d : TypeId} {hs' : List HProp} {a : UInt32} {sd : TypeDesc} (hs : ∀ w, (underlying s).run P w = .ok sd w) (hd : ∀ w, (underlying d).run P w = .ok (.int .i64) w) (hx : L.ev x = some (vU32 a))  :
    Yld P ⟨dst, .convert s d x, ty, pos, aft, g⟩ L hs' (vI a.toNat) := Yld.conv hx fun w => by
  have ha := u32_lt a
  rw [run_conv_int hs hd w, wrap_i64 (by omega)]
theorem Yld.conv_i_u32 {x : Operand} {s d : TypeId} {hs' : List HProp} {a : Int} {sd : TypeDesc} (hs : ∀ w, (underlying s).run P w = .ok sd w) (hd : ∀ w, (underlying d).run P w = .ok (.int .u32) w) (hx : L.ev x = some (vI a)) :
    Yld P ⟨dst, .convert s d x, ty, pos, aft, g⟩ L hs' (vU32 (UInt32.ofNat (a % 4294967296).toNat)) := Yld.conv hx fun w => by
  have hw : IntKind.u32.wrap a = ((UInt32.ofNat (a % 4294967296).toNat).toNat : Int) := by rw [wrap_u32, UInt32.toNat_ofNat_of_lt' (by show (a % 4294967296).toNat < 4294967296; omega)]; omega
  rw [run_conv_int hs hd w, hw]
theorem Yld.conv_u32_u8 {x : Operand} {s d : TypeId} {hs' : List HProp} {a : UInt32} {sd : TypeDesc} (hs : ∀ w, (underlying s).run P w = .ok sd w) (hd : ∀ w, (underlying d).run P w = .ok (.int .u8) w) (hx : L.ev x = some (vU32 a)) :
    Yld P ⟨dst, .convert s d x, ty, pos, aft, g⟩ L hs' (vU8 a.toUInt8) := Yld.conv hx fun w => by
  have ha := u32_lt a
  have hw : IntKind.u8.wrap (a.toNat : Int) = (a.toUInt8.toNat : Int) := by rw [wrap_u8, UInt32.toNat_toUInt8]; omega
  rw [run_conv_int hs hd w, hw]
theorem Yld.conv_u32_u16 {x : Operand} {s d : TypeId} {hs' : List HProp} {a : UInt32} {sd : TypeDesc} (hs : ∀ w, (underlying s).run P w = .ok sd w) (hd : ∀ w, (underlying d).run P w = .ok (.int .u16) w) (hx : L.ev x = some (vU32 a)) :
    Yld P ⟨dst, .convert s d x, ty, pos, aft, g⟩ L hs' (vU16 a.toUInt16) := Yld.conv hx fun w => by
  have ha := u32_lt a
  have hw : IntKind.u16.wrap (a.toNat : Int) = (a.toUInt16.toNat : Int) := by rw [wrap_u16, UInt32.toNat_toUInt16]; omega
  rw [run_conv_int hs hd w, hw]
theorem Yld.conv_u32_u32 {x : Operand} {s d : TypeId} {hs' : List HProp} {a : UInt32} {sd : TypeDesc} (hs : ∀ w, (underlying s).run P w = .ok sd w) (hd : ∀ w, (underlying d).run P w = .ok (.int .u32) w) (hx : L.ev x = some (vU32 a)) :
    Yld P ⟨dst, .convert s d x, ty, pos, aft, g⟩ L hs' (vU32 a) := Yld.conv hx fun w => by
  have ha := u32_lt a
  have hw : IntKind.u32.wrap (a.toNat : Int) = (a.toNat : Int) := by rw [wrap_u32]; omega
  rw [run_conv_int hs hd w, hw]
theorem Yld.conv_u32_u64 {x : Operand} {s d : TypeId} {hs' : List HProp} {a : UInt32} {sd : TypeDesc} (hs : ∀ w, (underlying s).run P w = .ok sd w) (hd : ∀ w, (underlying d).run P w = .ok (.int .u64) w) (hx : L.ev x = some (vU32 a)) :
    Yld P ⟨dst, .convert s d x, ty, pos, aft, g⟩ L hs' (vU64 a.toUInt64) := Yld.conv hx fun w => by
  have ha := u32_lt a
  have hw : IntKind.u64.wrap (a.toNat : Int) = (a.toUInt64.toNat : Int) := by rw [wrap_u64, UInt32.toNat_toUInt64]; omega
  rw [run_conv_int hs hd w, hw]
theorem Yld.conv_u64_i {x : Operand} {s d : TypeId} {hs' : List HProp} {a : UInt64} {sd : TypeDesc} (hs : ∀ w, (underlying s).run P w = .ok sd w) (hd : ∀ w, (underlying d).run P w = .ok (.int .i64) w) (hx : L.ev x = some (vU64 a)) (h : a.toNat < 9223372036854775808) :
    Yld P ⟨dst, .convert s d x, ty, pos, aft, g⟩ L hs' (vI a.toNat) := Yld.conv hx fun w => by
  have ha := u64_lt a
  rw [run_conv_int hs hd w, wrap_i64 (by omega)]
theorem Yld.conv_i_u64 {x : Operand} {s d : TypeId} {hs' : List HProp} {a : Int} {sd : TypeDesc} (hs : ∀ w, (underlying s).run P w = .ok sd w) (hd : ∀ w, (underlying d).run P w = .ok (.int .u64) w) (hx : L.ev x = some (vI a)) :
    Yld P ⟨dst, .convert s d x, ty, pos, aft, g⟩ L hs' (vU64 (UInt64.ofNat (a % 18446744073709551616).toNat)) := Yld.conv hx fun w => by
  have hw : IntKind.u64.wrap a = ((UInt64.ofNat (a % 18446744073709551616).toNat).toNat : Int) := by rw [wrap_u64, UInt64.toNat_ofNat_of_lt' (by show (a % 18446744073709551616).toNat < 18446744073709551616; omega)]; omega
  rw [run_conv_int hs hd w, hw]
theorem Yld.conv_u64_u8 {x : Operand} {s d : TypeId} {hs' : List HProp} {a : UInt64} {sd : TypeDesc} (hs : ∀ w, (underlying s).run P w = .ok sd w) (hd : ∀ w, (underlying d).run P w = .ok (.int .u8) w) (hx : L.ev x = some (vU64 a)) :
    Yld P ⟨dst, .convert s d x, ty, pos, aft, g⟩ L hs' (vU8 a.toUInt8) := Yld.conv hx fun w => by
  have ha := u64_lt a
  have hw : IntKind.u8.wrap (a.toNat : Int) = (a.toUInt8.toNat : Int) := by rw [wrap_u8, UInt64.toNat_toUInt8]; omega
  rw [run_conv_int hs hd w, hw]
theorem Yld.conv_u64_u16 {x : Operand} {s d : TypeId} {hs' : List HProp} {a : UInt64} {sd : TypeDesc} (hs : ∀ w, (underlying s).run P w = .ok sd w) (hd : ∀ w, (underlying d).run P w = .ok (.int .u16) w) (hx : L.ev x = some (vU64 a)) :
    Yld P ⟨dst, .convert s d x, ty, pos, aft, g⟩ L hs' (vU16 a.toUInt16) := Yld.conv hx fun w => by
  have ha := u64_lt a
  have hw : IntKind.u16.wrap (a.toNat : Int) = (a.toUInt16.toNat : Int) := by rw [wrap_u16, UInt64.toNat_toUInt16]; omega
  rw [run_conv_int hs hd w, hw]
theorem Yld.conv_u64_u32 {x : Operand} {s d : TypeId} {hs' : List HProp} {a : UInt64} {sd : TypeDesc} (hs : ∀ w, (underlying s).run P w = .ok sd w) (hd : ∀ w, (underlying d).run P w = .ok (.int .u32) w) (hx : L.ev x = some (vU64 a)) :
    Yld P ⟨dst, .convert s d x, ty, pos, aft, g⟩ L hs' (vU32 a.toUInt32) := Yld.conv hx fun w => by
  have ha := u64_lt a
  have hw : IntKind.u32.wrap (a.toNat : Int) = (a.toUInt32.toNat : Int) := by rw [wrap_u32, UInt64.toNat_toUInt32]; omega
  rw [run_conv_int hs hd w, hw]
theorem Yld.conv_u64_u64 {x : Operand} {s d : TypeId} {hs' : List HProp} {a : UInt64} {sd : TypeDesc} (hs : ∀ w, (underlying s).run P w = .ok sd w) (hd : ∀ w, (underlying d).run P w = .ok (.int .u64) w) (hx : L.ev x = some (vU64 a)) :
    Yld P ⟨dst, .convert s d x, ty, pos, aft, g⟩ L hs' (vU64 a) := Yld.conv hx fun w => by
  have ha := u64_lt a
  have hw : IntKind.u64.wrap (a.toNat : Int) = (a.toNat : Int) := by rw [wrap_u64]; omega
  rw [run_conv_int hs hd w, hw]

end
end Go.Sl
