/- The program: where fields lie. -/
import Derived.Test.YtogemllbdkbjkaaChecked
import Derived.Test.YtogemllbdkbjkaaSlSlice
set_option linter.unusedVariables false
set_option linter.unusedSimpArgs false
namespace Go.Sl
open Go Go.Proofs
theorem Try_mixed : Try.prog.follows .mixedOrders = true := by kernel_rfl
theorem Try_fo36_0 : FieldOff Try.prog 36 0 0 := by intro w b off; simp [Instr.fieldAt, Instr.sureAddr, fieldPlace, Addr.add, go_sem]
theorem Try_fo36_1 : FieldOff Try.prog 36 1 1 := by intro w b off; simp [Instr.fieldAt, Instr.sureAddr, fieldPlace, Addr.add, go_sem]
theorem Try_fo36_2 : FieldOff Try.prog 36 2 2 := by intro w b off; simp [Instr.fieldAt, Instr.sureAddr, fieldPlace, Addr.add, go_sem]
theorem Try_fo36_3 : FieldOff Try.prog 36 3 3 := by intro w b off; simp [Instr.fieldAt, Instr.sureAddr, fieldPlace, Addr.add, go_sem]
theorem Try_fo36_5 : FieldOff Try.prog 36 5 5 := by intro w b off; simp [Instr.fieldAt, Instr.sureAddr, fieldPlace, Addr.add, go_sem]
theorem Try_fo36_6 : FieldOff Try.prog 36 6 6 := by intro w b off; simp [Instr.fieldAt, Instr.sureAddr, fieldPlace, Addr.add, go_sem]
theorem Try_fo36_7 : FieldOff Try.prog 36 7 7 := by intro w b off; simp [Instr.fieldAt, Instr.sureAddr, fieldPlace, Addr.add, go_sem]
theorem Try_fo36_8 : FieldOff Try.prog 36 8 8 := by intro w b off; simp [Instr.fieldAt, Instr.sureAddr, fieldPlace, Addr.add, go_sem]
theorem Try_fo36_9 : FieldOff Try.prog 36 9 9 := by intro w b off; simp [Instr.fieldAt, Instr.sureAddr, fieldPlace, Addr.add, go_sem]
theorem Try_fo36_14 : FieldOff Try.prog 36 14 14 := by intro w b off; simp [Instr.fieldAt, Instr.sureAddr, fieldPlace, Addr.add, go_sem]
theorem Try_fo36_15 : FieldOff Try.prog 36 15 15 := by intro w b off; simp [Instr.fieldAt, Instr.sureAddr, fieldPlace, Addr.add, go_sem]
theorem Try_fo36_16 : FieldOff Try.prog 36 16 16 := by intro w b off; simp [Instr.fieldAt, Instr.sureAddr, fieldPlace, Addr.add, go_sem]
theorem Try_fo36_17 : FieldOff Try.prog 36 17 17 := by intro w b off; simp [Instr.fieldAt, Instr.sureAddr, fieldPlace, Addr.add, go_sem]
theorem Try_fo36_18 : FieldOff Try.prog 36 18 18 := by intro w b off; simp [Instr.fieldAt, Instr.sureAddr, fieldPlace, Addr.add, go_sem]
theorem Try_fo46_0 : FieldOff Try.prog 46 0 0 := by intro w b off; simp [Instr.fieldAt, Instr.sureAddr, fieldPlace, Addr.add, go_sem]
theorem Try_fo46_1 : FieldOff Try.prog 46 1 1 := by intro w b off; simp [Instr.fieldAt, Instr.sureAddr, fieldPlace, Addr.add, go_sem]
theorem Try_fo52_0 : FieldOff Try.prog 52 0 0 := by intro w b off; simp [Instr.fieldAt, Instr.sureAddr, fieldPlace, Addr.add, go_sem]
theorem Try_fo52_1 : FieldOff Try.prog 52 1 1 := by intro w b off; simp [Instr.fieldAt, Instr.sureAddr, fieldPlace, Addr.add, go_sem]
theorem Try_fo52_2 : FieldOff Try.prog 52 2 2 := by intro w b off; simp [Instr.fieldAt, Instr.sureAddr, fieldPlace, Addr.add, go_sem]
theorem Try_fo57_0 : FieldOff Try.prog 57 0 0 := by intro w b off; simp [Instr.fieldAt, Instr.sureAddr, fieldPlace, Addr.add, go_sem]
theorem Try_fo57_1 : FieldOff Try.prog 57 1 1 := by intro w b off; simp [Instr.fieldAt, Instr.sureAddr, fieldPlace, Addr.add, go_sem]
theorem Try_fo59_0 : FieldOff Try.prog 59 0 0 := by intro w b off; simp [Instr.fieldAt, Instr.sureAddr, fieldPlace, Addr.add, go_sem]
theorem Try_fo59_1 : FieldOff Try.prog 59 1 1 := by intro w b off; simp [Instr.fieldAt, Instr.sureAddr, fieldPlace, Addr.add, go_sem]
theorem Try_fo59_2 : FieldOff Try.prog 59 2 2 := by intro w b off; simp [Instr.fieldAt, Instr.sureAddr, fieldPlace, Addr.add, go_sem]
theorem Try_fo59_3 : FieldOff Try.prog 59 3 3 := by intro w b off; simp [Instr.fieldAt, Instr.sureAddr, fieldPlace, Addr.add, go_sem]
theorem Try_fo59_4 : FieldOff Try.prog 59 4 4 := by intro w b off; simp [Instr.fieldAt, Instr.sureAddr, fieldPlace, Addr.add, go_sem]
theorem Try_fo68_0 : FieldOff Try.prog 68 0 0 := by intro w b off; simp [Instr.fieldAt, Instr.sureAddr, fieldPlace, Addr.add, go_sem]
theorem Try_fo68_1 : FieldOff Try.prog 68 1 1 := by intro w b off; simp [Instr.fieldAt, Instr.sureAddr, fieldPlace, Addr.add, go_sem]
theorem Try_fo68_2 : FieldOff Try.prog 68 2 2 := by intro w b off; simp [Instr.fieldAt, Instr.sureAddr, fieldPlace, Addr.add, go_sem]
theorem Try_fo68_4 : FieldOff Try.prog 68 4 4 := by intro w b off; simp [Instr.fieldAt, Instr.sureAddr, fieldPlace, Addr.add, go_sem]
theorem Try_fo76_0 : FieldOff Try.prog 76 0 0 := by intro w b off; simp [Instr.fieldAt, Instr.sureAddr, fieldPlace, Addr.add, go_sem]
theorem Try_fo76_1 : FieldOff Try.prog 76 1 1 := by intro w b off; simp [Instr.fieldAt, Instr.sureAddr, fieldPlace, Addr.add, go_sem]
theorem Try_fo76_2 : FieldOff Try.prog 76 2 2 := by intro w b off; simp [Instr.fieldAt, Instr.sureAddr, fieldPlace, Addr.add, go_sem]
theorem Try_fo76_3 : FieldOff Try.prog 76 3 3 := by intro w b off; simp [Instr.fieldAt, Instr.sureAddr, fieldPlace, Addr.add, go_sem]
theorem Try_fo87_0 : FieldOff Try.prog 87 0 0 := by intro w b off; simp [Instr.fieldAt, Instr.sureAddr, fieldPlace, Addr.add, go_sem]
theorem Try_fo87_1 : FieldOff Try.prog 87 1 1 := by intro w b off; simp [Instr.fieldAt, Instr.sureAddr, fieldPlace, Addr.add, go_sem]
theorem Try_fo87_2 : FieldOff Try.prog 87 2 2 := by intro w b off; simp [Instr.fieldAt, Instr.sureAddr, fieldPlace, Addr.add, go_sem]
theorem Try_fo93_0 : FieldOff Try.prog 93 0 0 := by intro w b off; simp [Instr.fieldAt, Instr.sureAddr, fieldPlace, Addr.add, go_sem]
theorem Try_fo93_1 : FieldOff Try.prog 93 1 19 := by intro w b off; simp [Instr.fieldAt, Instr.sureAddr, fieldPlace, Addr.add, go_sem]
theorem Try_fo93_2 : FieldOff Try.prog 93 2 20 := by intro w b off; simp [Instr.fieldAt, Instr.sureAddr, fieldPlace, Addr.add, go_sem]
theorem Try_fo93_3 : FieldOff Try.prog 93 3 22 := by intro w b off; simp [Instr.fieldAt, Instr.sureAddr, fieldPlace, Addr.add, go_sem]
theorem Try_fo93_4 : FieldOff Try.prog 93 4 23 := by intro w b off; simp [Instr.fieldAt, Instr.sureAddr, fieldPlace, Addr.add, go_sem]
theorem Try_fo93_5 : FieldOff Try.prog 93 5 24 := by intro w b off; simp [Instr.fieldAt, Instr.sureAddr, fieldPlace, Addr.add, go_sem]
theorem Try_fo93_6 : FieldOff Try.prog 93 6 25 := by intro w b off; simp [Instr.fieldAt, Instr.sureAddr, fieldPlace, Addr.add, go_sem]
theorem Try_fo101_0 : FieldOff Try.prog 101 0 0 := by intro w b off; simp [Instr.fieldAt, Instr.sureAddr, fieldPlace, Addr.add, go_sem]
theorem Try_fo101_1 : FieldOff Try.prog 101 1 1 := by intro w b off; simp [Instr.fieldAt, Instr.sureAddr, fieldPlace, Addr.add, go_sem]
theorem Try_fo111_0 : FieldOff Try.prog 111 0 0 := by intro w b off; simp [Instr.fieldAt, Instr.sureAddr, fieldPlace, Addr.add, go_sem]
theorem Try_fo111_1 : FieldOff Try.prog 111 1 1 := by intro w b off; simp [Instr.fieldAt, Instr.sureAddr, fieldPlace, Addr.add, go_sem]
theorem Try_fo118_0 : FieldOff Try.prog 118 0 0 := by intro w b off; simp [Instr.fieldAt, Instr.sureAddr, fieldPlace, Addr.add, go_sem]
theorem Try_fo118_1 : FieldOff Try.prog 118 1 1 := by intro w b off; simp [Instr.fieldAt, Instr.sureAddr, fieldPlace, Addr.add, go_sem]
theorem Try_fo118_2 : FieldOff Try.prog 118 2 2 := by intro w b off; simp [Instr.fieldAt, Instr.sureAddr, fieldPlace, Addr.add, go_sem]
theorem Try_fo118_3 : FieldOff Try.prog 118 3 3 := by intro w b off; simp [Instr.fieldAt, Instr.sureAddr, fieldPlace, Addr.add, go_sem]
theorem Try_fo118_4 : FieldOff Try.prog 118 4 4 := by intro w b off; simp [Instr.fieldAt, Instr.sureAddr, fieldPlace, Addr.add, go_sem]
theorem Try_fo118_5 : FieldOff Try.prog 118 5 5 := by intro w b off; simp [Instr.fieldAt, Instr.sureAddr, fieldPlace, Addr.add, go_sem]
theorem Try_fo121_0 : FieldOff Try.prog 121 0 0 := by intro w b off; simp [Instr.fieldAt, Instr.sureAddr, fieldPlace, Addr.add, go_sem]
theorem Try_fo121_1 : FieldOff Try.prog 121 1 1 := by intro w b off; simp [Instr.fieldAt, Instr.sureAddr, fieldPlace, Addr.add, go_sem]
theorem Try_fo123_0 : FieldOff Try.prog 123 0 0 := by intro w b off; simp [Instr.fieldAt, Instr.sureAddr, fieldPlace, Addr.add, go_sem]
theorem Try_fo123_1 : FieldOff Try.prog 123 1 1 := by intro w b off; simp [Instr.fieldAt, Instr.sureAddr, fieldPlace, Addr.add, go_sem]
theorem Try_fo123_2 : FieldOff Try.prog 123 2 2 := by intro w b off; simp [Instr.fieldAt, Instr.sureAddr, fieldPlace, Addr.add, go_sem]
theorem Try_fo142_0 : FieldOff Try.prog 142 0 0 := by intro w b off; simp [Instr.fieldAt, Instr.sureAddr, fieldPlace, Addr.add, go_sem]
theorem Try_fo142_1 : FieldOff Try.prog 142 1 1 := by intro w b off; simp [Instr.fieldAt, Instr.sureAddr, fieldPlace, Addr.add, go_sem]
theorem Try_fa36_1 : FieldAt Try.prog 36 1 1 := by intro w cs v h; simp [Instr.field, part, asAgg, go_sem, h]
theorem Try_fa36_15 : FieldAt Try.prog 36 15 15 := by intro w cs v h; simp [Instr.field, part, asAgg, go_sem, h]
theorem Try_fa59_4 : FieldAt Try.prog 59 4 4 := by intro w cs v h; simp [Instr.field, part, asAgg, go_sem, h]
theorem Try_z36 (w : World) : (zeroValue 36).run Try.prog w = .ok (.agg [(.int .u8 0 : Value), (.bool false : Value), (.bool false : Value), (.bool false : Value), (.bool false : Value), (.int .u32 0 : Value), (.int .u16 0 : Value), (.int .u32 0 : Value), (.int .u32 0 : Value), (.int .u32 0 : Value), (.int .u32 0 : Value), (.int .u32 0 : Value), (.int .u16 0 : Value), (.int .u16 0 : Value), (.slice none 0 0 : Value), (.slice none 0 0 : Value), (.slice none 0 0 : Value), (.slice none 0 0 : Value), (.slice none 0 0 : Value)].toArray) w := Try.zeroValue36 w
theorem Try_pl36 : ∃ fs : Array Field, (∀ w, (underlying 36).run Try.prog w = .ok (.struct fs) w) ∧ ∀ w, (fs.mapM fun (f : Field) => do pure (f.offset, ← sizeOf f.type) : Sem (Array (Nat × Nat))).run Try.prog w = .ok #[(0, 1), (1, 1), (2, 1), (3, 1), (4, 1), (5, 1), (6, 1), (7, 1), (8, 1), (9, 1), (10, 1), (11, 1), (12, 1), (13, 1), (14, 1), (15, 1), (16, 1), (17, 1), (18, 1)] w := ⟨_, Try.runUnderlying36, fun w => by simp [Array.mapM_eq_mapM_toList, go_sem]⟩
theorem Try_z46 (w : World) : (zeroValue 46).run Try.prog w = .ok (.agg [(.int .i64 0 : Value), (.int .u32 0 : Value)].toArray) w := Try.zeroValue46 w
theorem Try_pl46 : ∃ fs : Array Field, (∀ w, (underlying 46).run Try.prog w = .ok (.struct fs) w) ∧ ∀ w, (fs.mapM fun (f : Field) => do pure (f.offset, ← sizeOf f.type) : Sem (Array (Nat × Nat))).run Try.prog w = .ok #[(0, 1), (1, 1)] w := ⟨_, Try.runUnderlying46, fun w => by simp [Array.mapM_eq_mapM_toList, go_sem]⟩
theorem Try_z52 (w : World) : (zeroValue 52).run Try.prog w = .ok (.agg [(.int .u16 0 : Value), (.bool false : Value), (.int .u32 0 : Value)].toArray) w := Try.zeroValue52 w
theorem Try_pl52 : ∃ fs : Array Field, (∀ w, (underlying 52).run Try.prog w = .ok (.struct fs) w) ∧ ∀ w, (fs.mapM fun (f : Field) => do pure (f.offset, ← sizeOf f.type) : Sem (Array (Nat × Nat))).run Try.prog w = .ok #[(0, 1), (1, 1), (2, 1)] w := ⟨_, Try.runUnderlying52, fun w => by simp [Array.mapM_eq_mapM_toList, go_sem]⟩
theorem Try_z57 (w : World) : (zeroValue 57).run Try.prog w = .ok (.agg [(.int .u16 0 : Value), (.int .u16 0 : Value)].toArray) w := Try.zeroValue57 w
theorem Try_pl57 : ∃ fs : Array Field, (∀ w, (underlying 57).run Try.prog w = .ok (.struct fs) w) ∧ ∀ w, (fs.mapM fun (f : Field) => do pure (f.offset, ← sizeOf f.type) : Sem (Array (Nat × Nat))).run Try.prog w = .ok #[(0, 1), (1, 1)] w := ⟨_, Try.runUnderlying57, fun w => by simp [Array.mapM_eq_mapM_toList, go_sem]⟩
theorem Try_z59 (w : World) : (zeroValue 59).run Try.prog w = .ok (.agg [(.int .i64 0 : Value), (.bool false : Value), (.bool false : Value), (.int .i64 0 : Value), (.bool false : Value)].toArray) w := Try.zeroValue59 w
theorem Try_pl59 : ∃ fs : Array Field, (∀ w, (underlying 59).run Try.prog w = .ok (.struct fs) w) ∧ ∀ w, (fs.mapM fun (f : Field) => do pure (f.offset, ← sizeOf f.type) : Sem (Array (Nat × Nat))).run Try.prog w = .ok #[(0, 1), (1, 1), (2, 1), (3, 1), (4, 1)] w := ⟨_, Try.runUnderlying59, fun w => by simp [Array.mapM_eq_mapM_toList, go_sem]⟩
theorem Try_z68 (w : World) : (zeroValue 68).run Try.prog w = .ok (.agg [(.int .u16 0 : Value), (.bool false : Value), (.int .u32 0 : Value), (.int .u32 0 : Value), (.slice none 0 0 : Value)].toArray) w := Try.zeroValue68 w
theorem Try_pl68 : ∃ fs : Array Field, (∀ w, (underlying 68).run Try.prog w = .ok (.struct fs) w) ∧ ∀ w, (fs.mapM fun (f : Field) => do pure (f.offset, ← sizeOf f.type) : Sem (Array (Nat × Nat))).run Try.prog w = .ok #[(0, 1), (1, 1), (2, 1), (3, 1), (4, 1)] w := ⟨_, Try.runUnderlying68, fun w => by simp [Array.mapM_eq_mapM_toList, go_sem]⟩
theorem Try_z76 (w : World) : (zeroValue 76).run Try.prog w = .ok (.agg [(.bool false : Value), (.pointer none : Value), (.pointer none : Value), (.slice none 0 0 : Value)].toArray) w := Try.zeroValue76 w
theorem Try_pl76 : ∃ fs : Array Field, (∀ w, (underlying 76).run Try.prog w = .ok (.struct fs) w) ∧ ∀ w, (fs.mapM fun (f : Field) => do pure (f.offset, ← sizeOf f.type) : Sem (Array (Nat × Nat))).run Try.prog w = .ok #[(0, 1), (1, 1), (2, 1), (3, 1)] w := ⟨_, Try.runUnderlying76, fun w => by simp [Array.mapM_eq_mapM_toList, go_sem]⟩
theorem Try_z87 (w : World) : (zeroValue 87).run Try.prog w = .ok (.agg [(.int .u32 0 : Value), (.slice none 0 0 : Value), (.map none : Value)].toArray) w := Try.zeroValue87 w
theorem Try_pl87 : ∃ fs : Array Field, (∀ w, (underlying 87).run Try.prog w = .ok (.struct fs) w) ∧ ∀ w, (fs.mapM fun (f : Field) => do pure (f.offset, ← sizeOf f.type) : Sem (Array (Nat × Nat))).run Try.prog w = .ok #[(0, 1), (1, 1), (2, 1)] w := ⟨_, Try.runUnderlying87, fun w => by simp [Array.mapM_eq_mapM_toList, go_sem]⟩
theorem Try_z93 (w : World) : (zeroValue 93).run Try.prog w = .ok (.agg [(.int .u8 0 : Value), (.bool false : Value), (.bool false : Value), (.bool false : Value), (.bool false : Value), (.int .u32 0 : Value), (.int .u16 0 : Value), (.int .u32 0 : Value), (.int .u32 0 : Value), (.int .u32 0 : Value), (.int .u32 0 : Value), (.int .u32 0 : Value), (.int .u16 0 : Value), (.int .u16 0 : Value), (.slice none 0 0 : Value), (.slice none 0 0 : Value), (.slice none 0 0 : Value), (.slice none 0 0 : Value), (.slice none 0 0 : Value), (.int .i64 0 : Value), (.int .i64 0 : Value), (.int .u32 0 : Value), (.int .u64 0 : Value), (.int .u32 0 : Value), (.int .i64 0 : Value), (.int .i64 0 : Value)].toArray) w := Try.zeroValue93 w
theorem Try_pl93 : ∃ fs : Array Field, (∀ w, (underlying 93).run Try.prog w = .ok (.struct fs) w) ∧ ∀ w, (fs.mapM fun (f : Field) => do pure (f.offset, ← sizeOf f.type) : Sem (Array (Nat × Nat))).run Try.prog w = .ok #[(0, 19), (19, 1), (20, 2), (22, 1), (23, 1), (24, 1), (25, 1)] w := ⟨_, Try.runUnderlying93, fun w => by simp [Array.mapM_eq_mapM_toList, go_sem]⟩
theorem Try_z101 (w : World) : (zeroValue 101).run Try.prog w = .ok (.agg [(.int .u16 0 : Value), (.bool false : Value)].toArray) w := Try.zeroValue101 w
theorem Try_pl101 : ∃ fs : Array Field, (∀ w, (underlying 101).run Try.prog w = .ok (.struct fs) w) ∧ ∀ w, (fs.mapM fun (f : Field) => do pure (f.offset, ← sizeOf f.type) : Sem (Array (Nat × Nat))).run Try.prog w = .ok #[(0, 1), (1, 1)] w := ⟨_, Try.runUnderlying101, fun w => by simp [Array.mapM_eq_mapM_toList, go_sem]⟩
theorem Try_z111 (w : World) : (zeroValue 111).run Try.prog w = .ok (.agg [(.int .u32 0 : Value), (.slice none 0 0 : Value)].toArray) w := Try.zeroValue111 w
theorem Try_pl111 : ∃ fs : Array Field, (∀ w, (underlying 111).run Try.prog w = .ok (.struct fs) w) ∧ ∀ w, (fs.mapM fun (f : Field) => do pure (f.offset, ← sizeOf f.type) : Sem (Array (Nat × Nat))).run Try.prog w = .ok #[(0, 1), (1, 1)] w := ⟨_, Try.runUnderlying111, fun w => by simp [Array.mapM_eq_mapM_toList, go_sem]⟩
theorem Try_z118 (w : World) : (zeroValue 118).run Try.prog w = .ok (.agg [(.bool false : Value), (.map none : Value), (.map none : Value), (.map none : Value), (.map none : Value), (.slice none 0 0 : Value)].toArray) w := Try.zeroValue118 w
theorem Try_pl118 : ∃ fs : Array Field, (∀ w, (underlying 118).run Try.prog w = .ok (.struct fs) w) ∧ ∀ w, (fs.mapM fun (f : Field) => do pure (f.offset, ← sizeOf f.type) : Sem (Array (Nat × Nat))).run Try.prog w = .ok #[(0, 1), (1, 1), (2, 1), (3, 1), (4, 1), (5, 1)] w := ⟨_, Try.runUnderlying118, fun w => by simp [Array.mapM_eq_mapM_toList, go_sem]⟩
theorem Try_z121 (w : World) : (zeroValue 121).run Try.prog w = .ok (.agg [(.int .u32 0 : Value), (.int .u32 0 : Value)].toArray) w := Try.zeroValue121 w
theorem Try_pl121 : ∃ fs : Array Field, (∀ w, (underlying 121).run Try.prog w = .ok (.struct fs) w) ∧ ∀ w, (fs.mapM fun (f : Field) => do pure (f.offset, ← sizeOf f.type) : Sem (Array (Nat × Nat))).run Try.prog w = .ok #[(0, 1), (1, 1)] w := ⟨_, Try.runUnderlying121, fun w => by simp [Array.mapM_eq_mapM_toList, go_sem]⟩
theorem Try_z123 (w : World) : (zeroValue 123).run Try.prog w = .ok (.agg [(.int .u16 0 : Value), (.bool false : Value), (.int .u32 0 : Value)].toArray) w := Try.zeroValue123 w
theorem Try_pl123 : ∃ fs : Array Field, (∀ w, (underlying 123).run Try.prog w = .ok (.struct fs) w) ∧ ∀ w, (fs.mapM fun (f : Field) => do pure (f.offset, ← sizeOf f.type) : Sem (Array (Nat × Nat))).run Try.prog w = .ok #[(0, 1), (1, 1), (2, 1)] w := ⟨_, Try.runUnderlying123, fun w => by simp [Array.mapM_eq_mapM_toList, go_sem]⟩
theorem Try_z142 (w : World) : (zeroValue 142).run Try.prog w = .ok (.agg [(.int .u16 0 : Value), (.slice none 0 0 : Value)].toArray) w := Try.zeroValue142 w
theorem Try_pl142 : ∃ fs : Array Field, (∀ w, (underlying 142).run Try.prog w = .ok (.struct fs) w) ∧ ∀ w, (fs.mapM fun (f : Field) => do pure (f.offset, ← sizeOf f.type) : Sem (Array (Nat × Nat))).run Try.prog w = .ok #[(0, 1), (1, 1)] w := ⟨_, Try.runUnderlying142, fun w => by simp [Array.mapM_eq_mapM_toList, go_sem]⟩
end Go.Sl
