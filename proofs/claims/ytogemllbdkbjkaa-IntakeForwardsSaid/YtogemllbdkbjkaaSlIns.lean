/- The operations' rules, one by one. -/
import Derived.Test.YtogemllbdkbjkaaSlOps
set_option linter.unusedVariables false
set_option linter.unusedSimpArgs false
namespace Go.Sl
open Go
abbrev vI (n : Int) : Value := .int .i64 n
abbrev vB (b : Bool) : Value := .bool b
abbrev vU8 (x : UInt8) : Value := .int .u8 (x.toNat : Int)
abbrev vU16 (x : UInt16) : Value := .int .u16 (x.toNat : Int)
abbrev vU32 (x : UInt32) : Value := .int .u32 (x.toNat : Int)
abbrev vU64 (x : UInt64) : Value := .int .u64 (x.toNat : Int)
abbrev ptr (b : Nat) (off : Nat := 0) : Value := .pointer (some ⟨b, off, none⟩)
abbrev nilP : Value := .pointer none
/-- a word of a set of cells -/
def setL : List Value → Nat → List Value → List Value
  | vs, _, [] => vs
  | vs, off, c :: cs => setL (vs.set off c) (off + 1) cs
theorem setL_length (cs : List Value) : ∀ (vs : List Value) (off : Nat), (setL vs off cs).length = vs.length := by
  induction cs with
  | nil => intro vs off; rfl
  | cons c cs ih => intro vs off; simp [setL, ih]
section
variable {P : Program} {L : Env} {hs : List HProp} {dst : Option Tmp} {ty : TypeId} {pos : String} {aft : Array Edge} {g : Option (Nat × Bool)}
theorem Yld.move {x : Operand} {v : Value} (hx : L.ev x = some v) : Yld P ⟨dst, .move x, ty, pos, aft, g⟩ L hs v := by
  intro ρ w F hev hh; simp [execOp, hev x v hx, go_sem]
theorem Yld.assign {x : Operand} {v : Value} (hx : L.ev x = some v) : Yld P ⟨dst, .assign x, ty, pos, aft, g⟩ L hs v := by
  intro ρ w F hev hh; simp [execOp, hev x v hx, go_sem]
theorem Yld.pickT {c x y : Operand} {v : Value} (hc : L.ev c = some (.bool true)) (hx : L.ev x = some v) : Yld P ⟨dst, .pick c x y, ty, pos, aft, g⟩ L hs v := by
  intro ρ w F hev hh; simp [execOp, hev c _ hc, hev x v hx, go_sem, asBool]
theorem Yld.pickF {c x y : Operand} {v : Value} (hc : L.ev c = some (.bool false)) (hy : L.ev y = some v) : Yld P ⟨dst, .pick c x y, ty, pos, aft, g⟩ L hs v := by
  intro ρ w F hev hh; simp [execOp, hev c _ hc, hev y v hy, go_sem, asBool]
theorem Yld.nilCheck {x : Operand} {a : Addr} (hx : L.ev x = some (.pointer (some a))) : Yld P ⟨dst, .nilCheck x, ty, pos, aft, g⟩ L hs (.pointer (some a)) := by
  intro ρ w F hev hh; simp [execOp, hev x _ hx, go_sem]
theorem Yld.load {x : Operand} {t : TypeId} {m : Bool} {b off : Nat} {T : TypeId} {vs : List Value} {v : Value} {hs' : List HProp} (hx : L.ev x = some (.pointer (some ⟨b, off, none⟩)))
    (ht : ∀ w, (isAgg t).run P w = .ok false w) (hp : Pick hs (cel m b T vs) hs') (hv : vs[off]? = some v) : Yld P ⟨dst, .load t x, ty, pos, aft, g⟩ L hs v := by
  intro ρ w F hev hh
  have hc := (hh.mono hp.to).left.cell hv
  simp [execOp, hev x _ hx, go_sem, Instr.loadAt, Instr.sureAddr, loadVar, ht, hc]
theorem run_loadCellsFrom {w : World} {b off : Nat} : ∀ (cs : List Value) (i : Nat) (acc : Array Value), (∀ j v, cs[j]? = some v → w.cell? ⟨b, off + i + j, none⟩ = some v) →
    (loadCellsFrom ⟨b, off, none⟩ i cs.length acc).run P w = .ok (acc ++ cs.toArray) w := by
  intro cs
  induction cs with
  | nil => intro i acc _; simp [loadCellsFrom, go_sem]
  | cons c cs ih =>
    intro i acc h
    have h0 := h 0 c rfl
    have hadd : (⟨b, off, none⟩ : Addr).add i = ⟨b, off + i, none⟩ := by
      unfold Addr.add; split
      · rename_i e; simp [e]
      · rfl
    have ih' := ih (i + 1) (acc.push c) (fun j v hj => by have := h (j + 1) v hj; rwa [show off + (i + 1) + j = off + i + (j + 1) by omega])
    simp only [List.length_cons, loadCellsFrom]
    simp only [Nat.add_zero] at h0
    simp [go_sem, hadd, h0, ih']
theorem run_loadCells {w : World} {b off : Nat} {cs : List Value} {k : Nat} (hk : cs.length = k) (h : ∀ j v, cs[j]? = some v → w.cell? ⟨b, off + j, none⟩ = some v) :
    (loadCells ⟨b, off, none⟩ k).run P w = .ok cs.toArray w := by
  subst hk
  unfold loadCells
  rw [run_loadCellsFrom cs 0 #[] (fun j v hj => by simpa using h j v hj)]
  simp
theorem Yld.loadAgg {x : Operand} {t : TypeId} {m : Bool} {b off k : Nat} {T : TypeId} {vs cs : List Value} {hs' : List HProp} (hx : L.ev x = some (.pointer (some ⟨b, off, none⟩)))
    (ht : ∀ w, (isAgg t).run P w = .ok true w) (hz : ∀ w, (sizeOf t).run P w = .ok k w) (hp : Pick hs (cel m b T vs) hs') (hk : cs.length = k)
    (hv : ∀ j v, cs[j]? = some v → vs[off + j]? = some v) : Yld P ⟨dst, .load t x, ty, pos, aft, g⟩ L hs (.agg cs.toArray) := by
  intro ρ w F hev hh
  have hc := (hh.mono hp.to).left
  have := run_loadCells (P := P) (w := w) (b := b) (off := off) hk (fun j v hj => hc.cell (hv j v hj))
  simp only [execOp, hev x _ hx, Sem.run_bind, Instr.loadAt, Instr.sureAddr, loadVar, Sem.run_pure, Result.andThen_ok, ht, hz, this, if_true]
/-- where a field lies -/
def FieldOff (P : Program) (s : TypeId) (f k : Nat) : Prop := ∀ (w : World) (b off : Nat), (Instr.fieldAt s (.pointer (some ⟨b, off, none⟩)) f).run P w = .ok (.pointer (some ⟨b, off + k, none⟩)) w
theorem Yld.fieldAddr {x : Operand} {s : TypeId} {f k b off : Nat} (hf : FieldOff P s f k) (hx : L.ev x = some (.pointer (some ⟨b, off, none⟩))) :
    Yld P ⟨dst, .fieldAddr s x f, ty, pos, aft, g⟩ L hs (.pointer (some ⟨b, off + k, none⟩)) := by
  intro ρ w F hev hh
  simp only [execOp, hev x _ hx, Sem.run_bind, hf w b off, Result.andThen_ok, Sem.run_pure]
/-- a field of a value: one cell -/
def FieldAt (P : Program) (s : TypeId) (f k : Nat) : Prop := ∀ (w : World) (cs : Array Value) (v : Value), cs[k]? = some v → (Instr.field s (.agg cs) f).run P w = .ok v w
theorem Yld.field {x : Operand} {s : TypeId} {f k : Nat} {cs : List Value} {v : Value} (hf : FieldAt P s f k) (hx : L.ev x = some (.agg cs.toArray)) (hv : cs[k]? = some v) :
    Yld P ⟨dst, .field s x f, ty, pos, aft, g⟩ L hs v := by
  intro ρ w F hev hh
  simp only [execOp, hev x _ hx, Sem.run_bind, hf w cs.toArray v (by simpa using hv), Result.andThen_ok, Sem.run_pure]
theorem Yld.extract {x : Operand} {i : Nat} {vs : Array Value} {v : Value} (hx : L.ev x = some (.tuple vs)) (hv : vs[i]? = some v) : Yld P ⟨dst, .extract x i, ty, pos, aft, g⟩ L hs v := by
  intro ρ w F hev hh
  simp [execOp, hev x _ hx, go_sem, Instr.extract, hv]
theorem Yld.not {x : Operand} {t : TypeId} {b : Bool} (hx : L.ev x = some (.bool b)) : Yld P ⟨dst, .unOp .not t x, ty, pos, aft, g⟩ L hs (.bool !b) := by
  intro ρ w F hev hh
  simp [execOp, hev x _ hx, go_sem, Op.unary]
theorem Yld.notP {x : Operand} {t : TypeId} {q : Prop} [Decidable q] (hx : L.ev x = some (.bool (decide q))) : Yld P ⟨dst, .unOp .not t x, ty, pos, aft, g⟩ L hs (.bool (decide (¬ q))) := by
  intro ρ w F hev hh
  simp [execOp, hev x _ hx, go_sem, Op.unary]
theorem Yld.indexAddr {x i : Operand} {t : TypeId} {elem k b off len cap : Nat} {kk : IntKind} {j : Int} (hu : ∀ w, (underlying t).run P w = .ok (.slice elem) w) (hz : ∀ w, (sizeOf elem).run P w = .ok k w)
    (hx : L.ev x = some (.slice (some ⟨b, off, none⟩) len cap)) (hi : L.ev i = some (.int kk j)) (h0 : 0 ≤ j) (h1 : j < len) :
    Yld P ⟨dst, .indexAddr t x i, ty, pos, aft, g⟩ L hs (.pointer (some ⟨b, off + j.toNat * k, none⟩)) := by
  intro ρ w F hev hh
  have hadd : (⟨b, off, none⟩ : Addr).add (j.toNat * k) = ⟨b, off + j.toNat * k, none⟩ := by
    unfold Addr.add; split
    · rename_i e; simp [e]
    · rfl
  simp only [execOp, hev x _ hx, hev i _ hi, Sem.run_bind, Instr.indexAt, asIntOf, Sem.run_pure, Result.andThen_ok, hu, hz, hadd, and_self, if_true, h0, h1]
theorem Yld.len_slice {x : Operand} {a : Option Addr} {n c : Nat} {t e : TypeId} (hu : ∀ w, (underlying t).run P w = .ok (.slice e) w) (hx : L.ev x = some (.slice a n c)) :
    Yld P ⟨dst, .call ⟨.builtin .len, #[x], #[t]⟩, ty, pos, aft, g⟩ L hs (vI n) := by
  intro ρ w F hev hh
  have e1 : (#[t] : Array TypeId)[0]? = some t := rfl
  simp only [execOp, resolve, invoke, builtin, Builtin.len_, List.map_toArray, List.map_cons, List.map_nil, hev x _ hx, Sem.run_bind, Sem.run_pure, Result.andThen_ok, e1, hu, List.getElem?_toArray, List.getElem?_cons_zero, goInt]
theorem Yld.cap_slice {x : Operand} {a : Option Addr} {n c : Nat} {t e : TypeId} (hu : ∀ w, (underlying t).run P w = .ok (.slice e) w) (hx : L.ev x = some (.slice a n c)) :
    Yld P ⟨dst, .call ⟨.builtin .cap, #[x], #[t]⟩, ty, pos, aft, g⟩ L hs (vI c) := by
  intro ρ w F hev hh
  have e1 : (#[t] : Array TypeId)[0]? = some t := rfl
  simp only [execOp, resolve, invoke, builtin, Builtin.cap_, List.map_toArray, List.map_cons, List.map_nil, hev x _ hx, Sem.run_bind, Sem.run_pure, Result.andThen_ok, e1, hu, List.getElem?_toArray, List.getElem?_cons_zero, goInt]
theorem Yld.len_string {x : Operand} {s : ByteArray} {t : TypeId} (hu : ∀ w, (underlying t).run P w = .ok .string w) (hx : L.ev x = some (.string s)) :
    Yld P ⟨dst, .call ⟨.builtin .len, #[x], #[t]⟩, ty, pos, aft, g⟩ L hs (vI s.size) := by
  intro ρ w F hev hh
  have e1 : (#[t] : Array TypeId)[0]? = some t := rfl
  simp only [execOp, resolve, invoke, builtin, Builtin.len_, List.map_toArray, List.map_cons, List.map_nil, hev x _ hx, Sem.run_bind, Sem.run_pure, Result.andThen_ok, e1, hu, List.getElem?_toArray, List.getElem?_cons_zero, goInt]
theorem Yld.len_map {x : Operand} {r : Nat} {es : Array MapEntry} {c : Nat} {m : Bool} {t k e : TypeId} {hs' : List HProp} (hu : ∀ w, (underlying t).run P w = .ok (.map k e) w) (hx : L.ev x = some (.map (some r))) (hp : Pick hs (pt m r (.map es c)) hs') :
    Yld P ⟨dst, .call ⟨.builtin .len, #[x], #[t]⟩, ty, pos, aft, g⟩ L hs (vI es.size) := by
  intro ρ w F hev hh
  have hb := (hh.mono hp.to).left.pt
  have e1 : (#[t] : Array TypeId)[0]? = some t := rfl
  have e2 : (getObj r).run P w = .ok (.map es c) w := by simp [getObj, Sem.run, hb]
  simp only [execOp, resolve, invoke, builtin, Builtin.len_, List.map_toArray, List.map_cons, List.map_nil, hev x _ hx, Sem.run_bind, Sem.run_pure, Result.andThen_ok, e1, e2, hu, List.getElem?_toArray, List.getElem?_cons_zero, goInt]



end
end Go.Sl
