/- Quotients and remainders; arrays in memory and as values; min; rows that are made. -/
import Derived.Test.YtogemllbdkbjkaaSlRem
import Derived.Laws.MakeOwn
set_option linter.unusedVariables false
set_option linter.unusedSimpArgs false
namespace Go.Sl
open Go
section
variable {P : Program} {L : Env} {hs : List HProp} {dst : Option Tmp} {ty : TypeId} {pos : String} {aft : Array Edge} {g : Option (Nat × Bool)}
theorem run_quo {k : IntKind} {t : TypeId} {a b : Int} (hb : b ≠ 0) (w : World) : (binOp .quo t (.int k a) (.int k b)).run P w = .ok (.int k (k.wrap (a.tdiv b))) w := by
  simp [binOp, Op.intDiv, hb, Sem.run_pure]
theorem Yld.quo_u8 {x y : Operand} {t t' : TypeId} {a b : UInt8} (hx : L.ev x = some (vU8 a)) (hy : L.ev y = some (vU8 b)) (hb : b ≠ 0) :
    Yld P ⟨dst, .binOp .quo t x y t', ty, pos, aft, g⟩ L hs (vU8 (a / b)) := Yld.bin hx hy fun w => by
  have hb' : ((b.toNat : Int)) ≠ 0 := fun h => hb (UInt8.toNat_inj.1 (by simpa using h))
  have e : IntKind.u8.wrap (((a.toNat : Int)).tdiv (b.toNat : Int)) = ((a / b).toNat : Int) := by
    have h1 : a.toNat / b.toNat ≤ a.toNat := Nat.div_le_self _ _
    have h2 := u8_lt a
    rw [Int.tdiv_eq_ediv_of_nonneg (by omega), wrap_u8, UInt8.toNat_div, ← Int.natCast_ediv]
    generalize a.toNat / b.toNat = d at h1 ⊢; omega
  have h := run_quo (P := P) (k := .u8) (t := t) (a := (a.toNat : Int)) hb' w
  rw [e] at h
  exact h
theorem Yld.rem_u8 {x y : Operand} {t t' : TypeId} {a b : UInt8} (hx : L.ev x = some (vU8 a)) (hy : L.ev y = some (vU8 b)) (hb : b ≠ 0) :
    Yld P ⟨dst, .binOp .rem t x y t', ty, pos, aft, g⟩ L hs (vU8 (a % b)) := Yld.bin hx hy fun w => by
  have hb' : ((b.toNat : Int)) ≠ 0 := fun h => hb (UInt8.toNat_inj.1 (by simpa using h))
  have e : ((a.toNat : Int)).tmod (b.toNat : Int) = ((a % b).toNat : Int) := by
    rw [Int.tmod_eq_emod_of_nonneg (by omega), UInt8.toNat_mod]; simp
  have h := run_rem (P := P) (k := .u8) (t := t) (a := (a.toNat : Int)) hb' w
  rw [e] at h
  exact h
theorem Yld.quo_u16 {x y : Operand} {t t' : TypeId} {a b : UInt16} (hx : L.ev x = some (vU16 a)) (hy : L.ev y = some (vU16 b)) (hb : b ≠ 0) :
    Yld P ⟨dst, .binOp .quo t x y t', ty, pos, aft, g⟩ L hs (vU16 (a / b)) := Yld.bin hx hy fun w => by
  have hb' : ((b.toNat : Int)) ≠ 0 := fun h => hb (UInt16.toNat_inj.1 (by simpa using h))
  have e : IntKind.u16.wrap (((a.toNat : Int)).tdiv (b.toNat : Int)) = ((a / b).toNat : Int) := by
    have h1 : a.toNat / b.toNat ≤ a.toNat := Nat.div_le_self _ _
    have h2 := u16_lt a
    rw [Int.tdiv_eq_ediv_of_nonneg (by omega), wrap_u16, UInt16.toNat_div, ← Int.natCast_ediv]
    generalize a.toNat / b.toNat = d at h1 ⊢; omega
  have h := run_quo (P := P) (k := .u16) (t := t) (a := (a.toNat : Int)) hb' w
  rw [e] at h
  exact h
theorem Yld.rem_u16 {x y : Operand} {t t' : TypeId} {a b : UInt16} (hx : L.ev x = some (vU16 a)) (hy : L.ev y = some (vU16 b)) (hb : b ≠ 0) :
    Yld P ⟨dst, .binOp .rem t x y t', ty, pos, aft, g⟩ L hs (vU16 (a % b)) := Yld.bin hx hy fun w => by
  have hb' : ((b.toNat : Int)) ≠ 0 := fun h => hb (UInt16.toNat_inj.1 (by simpa using h))
  have e : ((a.toNat : Int)).tmod (b.toNat : Int) = ((a % b).toNat : Int) := by
    rw [Int.tmod_eq_emod_of_nonneg (by omega), UInt16.toNat_mod]; simp
  have h := run_rem (P := P) (k := .u16) (t := t) (a := (a.toNat : Int)) hb' w
  rw [e] at h
  exact h
theorem Yld.quo_u32 {x y : Operand} {t t' : TypeId} {a b : UInt32} (hx : L.ev x = some (vU32 a)) (hy : L.ev y = some (vU32 b)) (hb : b ≠ 0) :
    Yld P ⟨dst, .binOp .quo t x y t', ty, pos, aft, g⟩ L hs (vU32 (a / b)) := Yld.bin hx hy fun w => by
  have hb' : ((b.toNat : Int)) ≠ 0 := fun h => hb (UInt32.toNat_inj.1 (by simpa using h))
  have e : IntKind.u32.wrap (((a.toNat : Int)).tdiv (b.toNat : Int)) = ((a / b).toNat : Int) := by
    have h1 : a.toNat / b.toNat ≤ a.toNat := Nat.div_le_self _ _
    have h2 := u32_lt a
    rw [Int.tdiv_eq_ediv_of_nonneg (by omega), wrap_u32, UInt32.toNat_div, ← Int.natCast_ediv]
    generalize a.toNat / b.toNat = d at h1 ⊢; omega
  have h := run_quo (P := P) (k := .u32) (t := t) (a := (a.toNat : Int)) hb' w
  rw [e] at h
  exact h
theorem Yld.quo_u64 {x y : Operand} {t t' : TypeId} {a b : UInt64} (hx : L.ev x = some (vU64 a)) (hy : L.ev y = some (vU64 b)) (hb : b ≠ 0) :
    Yld P ⟨dst, .binOp .quo t x y t', ty, pos, aft, g⟩ L hs (vU64 (a / b)) := Yld.bin hx hy fun w => by
  have hb' : ((b.toNat : Int)) ≠ 0 := fun h => hb (UInt64.toNat_inj.1 (by simpa using h))
  have e : IntKind.u64.wrap (((a.toNat : Int)).tdiv (b.toNat : Int)) = ((a / b).toNat : Int) := by
    have h1 : a.toNat / b.toNat ≤ a.toNat := Nat.div_le_self _ _
    have h2 := u64_lt a
    rw [Int.tdiv_eq_ediv_of_nonneg (by omega), wrap_u64, UInt64.toNat_div, ← Int.natCast_ediv]
    generalize a.toNat / b.toNat = d at h1 ⊢; omega
  have h := run_quo (P := P) (k := .u64) (t := t) (a := (a.toNat : Int)) hb' w
  rw [e] at h
  exact h
theorem Yld.rem_i {x y : Operand} {t t' : TypeId} {a b : Nat} (hx : L.ev x = some (vI a)) (hy : L.ev y = some (vI b)) (hb : b ≠ 0) :
    Yld P ⟨dst, .binOp .rem t x y t', ty, pos, aft, g⟩ L hs (vI ((a % b : Nat) : Int)) := Yld.bin hx hy fun w => by
  have h := run_rem (P := P) (k := .i64) (t := t) (a := (a : Int)) (b := (b : Int)) (by omega) w
  rw [Int.tmod_eq_emod_of_nonneg (by omega), ← Int.natCast_emod] at h
  exact h
theorem Yld.quo_i {x y : Operand} {t t' : TypeId} {a b : Nat} (hx : L.ev x = some (vI a)) (hy : L.ev y = some (vI b)) (hb : b ≠ 0) (ha : a ≤ 4611686018427387904) :
    Yld P ⟨dst, .binOp .quo t x y t', ty, pos, aft, g⟩ L hs (vI ((a / b : Nat) : Int)) := Yld.bin hx hy fun w => by
  have h := run_quo (P := P) (k := .i64) (t := t) (a := (a : Int)) (b := (b : Int)) (by omega) w
  have h1 : a / b ≤ a := Nat.div_le_self _ _
  rw [Int.tdiv_eq_ediv_of_nonneg (by omega), ← Int.natCast_ediv, wrap_i64 (by generalize a / b = d at h1 ⊢; omega)] at h
  exact h
theorem Yld.min_i {x y : Operand} {a b : Int} {ts : Array TypeId} (hx : L.ev x = some (vI a)) (hy : L.ev y = some (vI b)) :
    Yld P ⟨dst, .call ⟨.builtin .min, #[x, y], ts⟩, ty, pos, aft, g⟩ L hs (vI (if b < a then b else a)) := by
  intro ρ w F hev hh
  simp only [execOp, resolve, invoke, builtin, Builtin.min_, Builtin.min2, List.map_toArray, List.map_cons, List.map_nil, hev x _ hx, hev y _ hy, Sem.run_bind, Sem.run_pure, Result.andThen_ok, List.foldlM_cons, List.foldlM_nil]
theorem Yld.indexAddrA {x i : Operand} {t : TypeId} {elem k b off len : Nat} {kk : IntKind} {j : Int} (hu : ∀ w, (underlying t).run P w = .ok (.array len elem) w) (hz : ∀ w, (sizeOf elem).run P w = .ok k w)
    (hx : L.ev x = some (.pointer (some ⟨b, off, none⟩))) (hi : L.ev i = some (.int kk j)) (h0 : 0 ≤ j) (h1 : j < len) :
    Yld P ⟨dst, .indexAddr t x i, ty, pos, aft, g⟩ L hs (.pointer (some ⟨b, off + j.toNat * k, none⟩)) := by
  intro ρ w F hev hh
  have hadd : (⟨b, off, none⟩ : Addr).add (j.toNat * k) = ⟨b, off + j.toNat * k, none⟩ := by
    unfold Addr.add; split
    · rename_i e; simp [e]
    · rfl
  simp only [execOp, hev x _ hx, hev i _ hi, Sem.run_bind, Instr.indexAt, Instr.sureAddr, asIntOf, Sem.run_pure, Result.andThen_ok, hu, hz, hadd, and_self, if_true, h0, h1]
theorem Yld.indexA {x i : Operand} {t : TypeId} {elem len : Nat} {kk : IntKind} {j : Int} {cs : List Value} {v : Value} (hu : ∀ w, (underlying t).run P w = .ok (.array len elem) w) (hz : ∀ w, (sizeOf elem).run P w = .ok 1 w)
    (ht : ∀ w, (isAgg elem).run P w = .ok false w) (hx : L.ev x = some (.agg cs.toArray)) (hi : L.ev i = some (.int kk j)) (h0 : 0 ≤ j) (h1 : j < len) (hv : cs[j.toNat]? = some v) :
    Yld P ⟨dst, .index t x i, ty, pos, aft, g⟩ L hs v := by
  intro ρ w F hev hh
  have e : (cs.toArray)[j.toNat * 1]? = some v := by simpa using hv
  simp only [execOp, hev x _ hx, hev i _ hi, Sem.run_bind, Instr.index, asIntOf, Sem.run_pure, Result.andThen_ok, hu, hz, part, ht, and_self, if_true, h0, h1, e, Bool.false_eq_true, if_false]
theorem Yld.neqAgg {x y : Operand} {t t' : TypeId} {us vs : Array Value} {r : Bool} (hm : P.eqGuardType P.depth t = false) (hx : L.ev x = some (.agg us)) (hy : L.ev y = some (.agg vs)) (heq : ∀ w, (Op.equalIn 10000 t (.agg us) (.agg vs)).run P w = .ok r w) :
    Yld P ⟨dst, .binOp .neq t x y t', ty, pos, aft, g⟩ L hs (.bool !r) := Yld.bin hx hy fun w => by
  simp only [Sem.run_bind, run_eqGuard_agg w _ _ _ _ _ _ hm, Result.andThen_ok, run_neq_struct, heq]
theorem OpC.makeSlice {t : TypeId} {x y : Operand} {e : TypeId} {i : TypeInfo} {z : Value} {n : Nat} {zc : List Value} (ht : P.underlying t = some (.slice e)) (hi : P.info? e = some i) (hz : i.zero = some z) (hzc : z.cells = zc.toArray) (hk : i.size = zc.length)
    (hx : L.ev x = some (vI n)) (hy : L.ev y = some (vI n)) (hr : Room (n * i.bytes)) (hn : n ≤ 100000000000) :
    OpC P ⟨dst, .makeSlice t x y, ty, pos, aft, g⟩ L hs (X := Nat) (fun b => .slice (some ⟨b, 0, none⟩) n n) (fun b => cel true b e (List.replicate n zc).flatten :: hs) := .of_run fun ρ w F hev hh => by
  have hr' : (i.bytes : Int) * (n : Int) ≤ 281474976710656 := by
    unfold Room at hr
    rw [Nat.mul_comm] at hr
    have : ((i.bytes * n : Nat) : Int) ≤ 140737488355328 := by omega
    rw [Int.natCast_mul] at this; omega
  have h := run_make w t e i z ht hi hz .i64 .i64 (n : Int) (n : Int) (by omega) (Int.le_refl _) hr' (by omega)
  have hcs : madeCells z.cells (((n : Int)).toNat * i.size) = ((List.replicate n zc).flatten).toArray := by
    rw [hzc, hk]
    apply Array.ext'
    simp only [madeCells, Int.toNat_natCast]
    apply List.ext_getElem?
    intro q
    by_cases hq : q < n * zc.length
    · have hz0 : 0 < zc.length := by rcases Nat.eq_zero_or_pos zc.length with h | h
                                     · rw [h] at hq; simp at hq
                                     · exact h
      have h1 : (List.replicate n zc).flatten[q]? = zc[q % zc.length]? := by
        clear h hi hz hzc hk hr hr' hh hx hy hn
        induction n generalizing q with
        | zero => simp at hq
        | succ n ih =>
          rw [List.replicate_succ, List.flatten_cons]
          by_cases hlt : q < zc.length
          · rw [List.getElem?_append_left hlt, Nat.mod_eq_of_lt hlt]
          · rw [List.getElem?_append_right (by omega), ih (q - zc.length) (by rw [Nat.succ_mul] at hq; omega)]
            congr 1
            rw [Nat.mod_eq_sub_mod (by omega : q ≥ zc.length)]
      have h2 : q % zc.length < zc.length := Nat.mod_lt _ hz0
      have h3 : zc[q % zc.length]! = zc[q % zc.length] := by simp [h2]
      rw [h1, List.getElem?_eq_getElem h2, ← h3]
      simp [hq]
    · rw [List.getElem?_eq_none (by simp; omega), List.getElem?_eq_none (by simp; omega)]
  rw [hcs] at h
  refine ⟨w.heap.size, { w with heap := w.heap.push (.cells ((List.replicate n zc).flatten).toArray e) }, ?_, Same.push _ _, hh.newCel⟩
  simp only [execOp, hev x _ hx, hev y _ hy, Sem.run_bind, h, Result.andThen_ok, Sem.run_pure, Int.toNat_natCast]
  rfl
end
end Go.Sl
