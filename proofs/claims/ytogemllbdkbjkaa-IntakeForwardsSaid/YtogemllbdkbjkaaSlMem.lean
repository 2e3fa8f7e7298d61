/- The operations that make or turn memory, and calls. -/
import Derived.Test.YtogemllbdkbjkaaSlIns
import Derived.Laws.CopyRow
import Derived.Laws.Append
set_option linter.unusedVariables false
set_option linter.unusedSimpArgs false
namespace Go.Sl
open Go
section
variable {P : Program} {L : Env} {hs : List HProp} {dst : Option Tmp} {ty : TypeId} {pos : String} {aft : Array Edge} {g : Option (Nat × Bool)}
theorem OpC.of_run {o : Oper} {X : Type} {val : X → Value} {post : X → List HProp}
    (h : ∀ (ρ : Operand → Value) (w : World) (F : HProp), (∀ x u, L.ev x = some u → ρ x = u) → Holds w (Hs hs F) →
      ∃ x w', (execOp ρ o).run P w = .ok (.value (val x)) w' ∧ Same w w' ∧ Holds w' (Hs (post x) F)) : OpC P o L hs val post := by
  intro a w F K Q hev hh hK
  obtain ⟨x, w', hr, hs', hh'⟩ := h a.eval w F hev hh
  simp only [Oper.wp, hr, Oper.upon]
  exact hK x w' hs' hh'
theorem OpC.of_skip {o : Oper} {X : Type} {post : X → List HProp}
    (h : ∀ (ρ : Operand → Value) (w : World) (F : HProp), (∀ x u, L.ev x = some u → ρ x = u) → Holds w (Hs hs F) →
      ∃ x w', (execOp ρ o).run P w = .ok .skip w' ∧ Same w w' ∧ Holds w' (Hs (post x) F)) : OpC P o L hs (fun _ => undef) post := by
  intro a w F K Q hev hh hK
  obtain ⟨x, w', hr, hs', hh'⟩ := h a.eval w F hev hh
  simp only [Oper.wp, hr, Oper.upon]
  exact hK x w' hs' hh'
theorem Same.push (w : World) (o : Obj) : Same w { w with heap := w.heap.push o } := ⟨rfl, rfl, rfl, by simp⟩
theorem Holds.newCel {w : World} {T : TypeId} {vs : List Value} {F : HProp} (h : Holds w F) : Holds { w with heap := w.heap.push (.cells vs.toArray T) } (star (Sl.cel true w.heap.size T vs) F) :=
  h.new.mono fun _ => star_mono (fun _ => cel_of_pt) (fun _ h => h)
/-- a value of one cell -/
abbrev isCell (v : Value) : Bool := v.oneCell'
theorem OpC.alloc {t : TypeId} {z : Value} {cs : List Value} (hz : ∀ w, (zeroValue t).run P w = .ok z w) (hc : z.cells = cs.toArray) :
    OpC P ⟨dst, .alloc t, ty, pos, aft, g⟩ L hs (X := Nat) (fun b => ptr b) (fun b => cel true b t cs :: hs) := .of_run fun ρ w F hev hh => by
  refine ⟨w.heap.size, { w with heap := w.heap.push (.cells cs.toArray t) }, ?_, Same.push _ _, hh.newCel⟩
  simp only [execOp, Instr.alloc, Sem.run_bind, hz w, Result.andThen_ok, newVar, newRow, newObj, hc, Sem.run_pure]
  rfl
theorem OpC.box {t : TypeId} {x : Operand} {v : Value} {cs : List Value} (hx : L.ev x = some v) (hc : v.cells = cs.toArray) :
    OpC P ⟨dst, .box t x, ty, pos, aft, g⟩ L hs (X := Nat) (fun b => ptr b) (fun b => cel true b t cs :: hs) := .of_run fun ρ w F hev hh => by
  refine ⟨w.heap.size, { w with heap := w.heap.push (.cells cs.toArray t) }, ?_, Same.push _ _, hh.newCel⟩
  simp only [execOp, hev x _ hx, Instr.box, Sem.run_bind, newVar, newRow, newObj, hc, Sem.run_pure, Result.andThen_ok]
  rfl
theorem OpC.makeMap {t : TypeId} : OpC P ⟨dst, .makeMap t none, ty, pos, aft, g⟩ L hs (X := Nat) (fun b => .map (some b)) (fun b => pt true b (.map #[] 0) :: hs) := .of_run fun ρ w F hev hh => by
  refine ⟨w.heap.size, { w with heap := w.heap.push (.map #[] 0) }, ?_, Same.push _ _, hh.new⟩
  simp only [execOp, Instr.makeMap, Sem.run_bind, newObj, Sem.run_pure, Result.andThen_ok]
  rfl
def evPs (L : Env) : List (Nat × Operand) → Option (List (Nat × Value))
  | [] => some []
  | (i, x) :: r => match L.ev x, evPs L r with
    | some v, some l => some ((i, v) :: l)
    | _, _ => none
theorem evPs_map {ρ : Operand → Value} (hev : ∀ x u, L.ev x = some u → ρ x = u) : ∀ (ps : List (Nat × Operand)) (pv : List (Nat × Value)), evPs L ps = some pv → ps.map (fun (i, x) => (i, ρ x)) = pv
  | [], pv, h => by cases h; rfl
  | (i, x) :: r, pv, h => by
    simp only [evPs] at h
    split at h
    · rename_i v l hv hl
      cases h
      simp [hev x v hv, evPs_map hev r l hl]
    · cases h
theorem Yld.build {t : TypeId} {ps : List (Nat × Operand)} {pv : List (Nat × Value)} {v : Value} (hp : evPs L ps = some pv) (hb : ∀ w, (Instr.build t pv.toArray).run P w = .ok v w) :
    Yld P ⟨dst, .build t ps.toArray, ty, pos, aft, g⟩ L hs v := by
  intro ρ w F hev hh
  have e : ps.toArray.map (fun (i, x) => (i, ρ x)) = pv.toArray := by rw [← evPs_map hev ps pv hp]; simp
  simp only [execOp, e, Sem.run_bind, hb w, Result.andThen_ok, Sem.run_pure]
theorem OpC.buildSlice {t : TypeId} {len : Nat} {ps : List (Nat × Operand)} {pv : List (Nat × Value)} {elem size : Nat} {z : Value} {cs : List Value}
    (hu : ∀ w, (underlying t).run P w = .ok (.slice elem) w) (hsz : ∀ w, (sizeOf elem).run P w = .ok size w) (hz : ∀ w, (zeroValue elem).run P w = .ok z w) (hp : evPs L ps = some pv)
    (h0 : (len * size == 0) = false) (hsm : len * size ≤ 16777216)
    (hf : Instr.fill (fun i => some (i * size, size)) ((Array.range (len * size)).map (z.cells[· % z.cells.size]!)) pv = some cs.toArray) :
    OpC P ⟨dst, .buildSlice t len ps.toArray, ty, pos, aft, g⟩ L hs (X := Nat) (fun b => .slice (some ⟨b, 0, none⟩) len len) (fun b => cel true b elem cs :: hs) := .of_run fun ρ w F hev hh => by
  refine ⟨w.heap.size, { w with heap := w.heap.push (.cells cs.toArray elem) }, ?_, Same.push _ _, hh.newCel⟩
  have e : ps.toArray.map (fun (i, x) => (i, ρ x)) = pv.toArray := by rw [← evPs_map hev ps pv hp]; simp
  have h1 : ¬ (len * size > 2 ^ 24) := by have : (2 : Nat) ^ 24 = 16777216 := rfl; omega
  have h2 : ¬ (len * size = 0) := by simpa using h0
  simp only [execOp, e, Instr.buildSlice, Sem.run_bind, hu w, hsz w, Result.andThen_ok, h1, h2, if_false, hz w, Sem.run_pure, hf, newRow, newObj]
  rfl
/-- a list with one place turned -/
inductive SetAt : List Value → Nat → Value → List Value → Prop
  | zero {x v : Value} {l : List Value} : SetAt (x :: l) 0 v (v :: l)
  | succ {x v : Value} {l m : List Value} {n : Nat} (h : SetAt l n v m) : SetAt (x :: l) (n + 1) v (x :: m)
theorem SetAt.eq {l m : List Value} {n : Nat} {v : Value} (h : SetAt l n v m) : l.set n v = m ∧ n < l.length := by
  induction h with
  | zero => simp
  | succ _ ih => simp [ih.1, ih.2]
theorem OpC.store {t : TypeId} {x y : Operand} {b off : Nat} {T : TypeId} {v : Value} {vs vs' : List Value} {hs' : List HProp} (hsz : ∀ w, (sizeOf t).run P w = .ok 1 w)
    (hx : L.ev x = some (.pointer (some ⟨b, off, none⟩))) (hy : L.ev y = some v) (hc : isCell v = true) (hp : Pick hs (cel true b T vs) hs') (hv : vs.set off v = vs') (hlt : off < vs.length) :
    OpC P ⟨dst, .store t x y, ty, pos, aft, g⟩ L hs (X := Unit) (fun _ => undef) (fun _ => cel true b T vs' :: hs') := .of_skip fun ρ w F hev hh => by
  have h := hh.mono hp.to
  have hcell := h.left.cell (show vs[off]? = some vs[off] by simp [hlt])
  have hfr := h.left.free off
  refine ⟨(), w.setCell ⟨b, off, none⟩ v, ?_, ⟨rfl, rfl, rfl, by simp [World.setCell]⟩, ?_⟩
  · have hc1 : v.cells = #[v] := by cases v <;> first | rfl | cases hc
    have hadd : (⟨b, off, none⟩ : Addr).add 0 = ⟨b, off, none⟩ := rfl
    have hst : (Go.store ⟨b, off, none⟩ v).run P w = .ok () (w.setCell ⟨b, off, none⟩ v) := by
      rw [run_store P w _ v _ hc, hcell]; simp [hfr]
    simp only [execOp, hev x _ hx, hev y _ hy, Instr.storeAt, Instr.sureAddr, Sem.run_bind, Sem.run_pure, Result.andThen_ok, storeVar, hsz w, hc1]
    simp [storeCells, hadd, hst, Sem.run_bind]
  · have := h.setCell off v
    rw [hv] at this; exact this
theorem Holds.setRow {w : World} {b : Nat} {T : TypeId} {vs vs' : List Value} {F : HProp} (h : Holds w (star (Sl.cel true b T vs) F)) :
    Holds (w.setRow b vs'.toArray) (star (Sl.cel true b T vs') F) := by
  have h' := h.mono (fun _ => star_mono (fun _ => cel_own) (fun _ h => h))
  have hb := h'.left.pt
  refine (h'.put (o' := .cells vs'.toArray T (0, 0)) ?_).mono (fun _ => star_mono (fun _ => cel_of_pt) (fun _ h => h))
  intro k
  by_cases hk : k = b
  · subst hk; rw [if_pos rfl, setRow_heap w k vs.toArray vs'.toArray T (0, 0) hb]
  · rw [if_neg hk]
    simp only [World.setRow, Array.getElem?_modify]
    rw [if_neg (fun e => hk e.symm)]
theorem Same.setRow (w : World) (b : Nat) (cs : Array Value) : Same w (w.setRow b cs) := ⟨rfl, rfl, rfl, by simp [World.setRow]⟩
theorem OpC.storeAgg {t : TypeId} {x y : Operand} {b off k : Nat} {T : TypeId} {cs vs vs' : List Value} {hs' : List HProp} (hsz : ∀ w, (sizeOf t).run P w = .ok k w)
    (hx : L.ev x = some (.pointer (some ⟨b, off, none⟩))) (hy : L.ev y = some (.agg cs.toArray)) (hk : cs.length = k) (hc : cs.all isCell = true) (hp : Pick hs (cel true b T vs) hs')
    (hv : vs.take off ++ cs ++ vs.drop (off + k) = vs') (hlt : off + k ≤ vs.length) :
    OpC P ⟨dst, .store t x y, ty, pos, aft, g⟩ L hs (X := Unit) (fun _ => undef) (fun _ => cel true b T vs' :: hs') := .of_skip fun ρ w F hev hh => by
  have h := hh.mono hp.to
  have hb := (h.mono (fun _ => star_mono (fun _ => cel_own) (fun _ h => h))).left.pt
  refine ⟨(), w.setRow b vs'.toArray, ?_, Same.setRow _ _ _, h.setRow⟩
  have hst := run_storeCells_at (P := P) b off T cs 0 vs.toArray w hb (by simp; omega) (by simpa using hc)
  simp only [execOp, hev x _ hx, hev y _ hy, Instr.storeAt, Instr.sureAddr, Sem.run_bind, Sem.run_pure, Result.andThen_ok, storeVar, hsz w, Value.cells]
  subst hk; subst hv
  simp only [List.size_toArray, ne_eq, not_true_eq_false, if_false, Sem.run_bind, Sem.run_pure, Result.andThen_ok] at hst ⊢
  rw [hst]
  simp
theorem setWhole {vs cs : List Value} {k : Nat} (h : vs.length = k) : vs.take 0 ++ cs ++ vs.drop (0 + k) = cs := by
  subst h; simp
/-- the operands of a call -/
def evs (L : Env) : List Operand → Option (List Value)
  | [] => some []
  | x :: r => match L.ev x, evs L r with
    | some v, some l => some (v :: l)
    | _, _ => none
theorem evs_map {ρ : Operand → Value} (hev : ∀ x u, L.ev x = some u → ρ x = u) : ∀ (xs : List Operand) (vs : List Value), evs L xs = some vs → xs.map ρ = vs
  | [], vs, h => by cases h; rfl
  | x :: r, vs, h => by
    simp only [evs] at h
    split at h
    · rename_i v l hv hl
      cases h
      simp [hev x v hv, evs_map hev r l hl]
    · cases h
theorem OpC.call {f : FuncId} {xs : List Operand} {T : Array TypeId} {vs : List Value} {Pre hs' : List HProp} {Post : Value → HProp} (hcall : ∀ args w, (callFunc f args).run P w = .ok (.enter f args) w)
    (hxs : evs L xs = some vs) (hspec : Spec P f vs.toArray Pre Post) (hp : Picks hs Pre hs') :
    OpC P ⟨dst, .call ⟨.value (.func f), xs.toArray, T⟩, ty, pos, aft, g⟩ L hs (X := Value) (fun x => x) (fun v => Post v :: hs') := by
  intro a w F K Q hev hh hK
  have e : xs.toArray.map a.eval = vs.toArray := by rw [← evs_map hev xs vs hxs]; simp
  have hr : (execOp a.eval ⟨dst, .call ⟨.value (.func f), xs.toArray, T⟩, ty, pos, aft, g⟩).run P w = .ok (.enter f vs.toArray) w := by
    have : a.eval (.func f) = .func (.func f) #[] #[] := rfl
    simp only [execOp, resolve, e, this, Deferred.ofValue, Sem.run_bind, Sem.run_pure, Result.andThen_ok, invoke, hcall, Array.append_empty, Array.empty_append]
  simp only [Oper.wp, hr, Oper.upon]
  refine (hspec w (Hs hs' F) (hh.mono hp.to)).mono ?_
  rintro e w' ⟨v, rfl, hsame, hh'⟩
  exact hK v w' hsame hh'
end
end Go.Sl
namespace Go.Sl
open Go
/-! ### a struct's value out of its parts -/
def fillL : List Value → List (Nat × List Value) → List Value
  | z, [] => z
  | z, (off, cs) :: r => fillL (setL z off cs) r
theorem setL_foldl : ∀ (cs : List Value) (z : List Value) (off i : Nat), (cs.zipIdx i).foldl (fun (a : Array Value) (x : Value × Nat) => a.setIfInBounds (off + x.2) x.1) z.toArray = (setL z (off + i) cs).toArray
  | [], z, off, i => rfl
  | c :: cs, z, off, i => by
    simp only [List.zipIdx_cons, List.foldl_cons, List.setIfInBounds_toArray, setL]
    exact setL_foldl cs (z.set (off + i) c) off (i + 1)
inductive PartsOk (places : Nat → Option (Nat × Nat)) (n : Nat) : List (Nat × Value) → List (Nat × List Value) → Prop
  | nil : PartsOk places n [] []
  | cons {i off : Nat} {v : Value} {cs : List Value} {pv : List (Nat × Value)} {pd : List (Nat × List Value)} (hp : places i = some (off, cs.length)) (hc : v.cells = cs.toArray) (hle : off + cs.length ≤ n) (r : PartsOk places n pv pd) :
    PartsOk places n ((i, v) :: pv) ((off, cs) :: pd)
theorem fill_parts {places : Nat → Option (Nat × Nat)} {n : Nat} {pv : List (Nat × Value)} {pd : List (Nat × List Value)} (h : PartsOk places n pv pd) : ∀ z : List Value, z.length = n → Instr.fill places z.toArray pv = some (fillL z pd).toArray := by
  induction h with
  | nil => intro z _; rfl
  | @cons i off v cs pv pd hp hc hle _ ih =>
    intro z hz
    have e1 : (v.cells.size ≠ cs.length || decide (off + v.cells.size > z.toArray.size)) = false := by
      simp [hc, hz]; omega
    simp only [Instr.fill, hp, fillL]
    rw [if_neg (by simpa using e1)]
    have e2 : v.cells.zipIdx.foldl (fun (a : Array Value) (x : Value × Nat) => a.setIfInBounds (off + x.2) x.1) z.toArray = (setL z off cs).toArray := by
      rw [hc]
      have := setL_foldl cs z off 0
      simpa using this
    have := ih (setL z off cs) (by rw [setL_length, hz])
    rw [← e2] at this
    exact this
/-! the same, quick to unfold -/
def overT : List Value → List Value → List Value
  | [], z => z
  | c :: cs, z => c :: overT cs z.tail
def putT : List Value → Nat → List Value → List Value
  | z, 0, cs => overT cs z
  | x :: z, n + 1, cs => x :: putT z n cs
  | [], _ + 1, _ => []
def fillT : List Value → List (Nat × List Value) → List Value
  | z, [] => z
  | z, (off, cs) :: r => fillT (putT z off cs) r
theorem setL_succ : ∀ (cs : List Value) (x : Value) (z : List Value) (n : Nat), setL (x :: z) (n + 1) cs = x :: setL z n cs
  | [], x, z, n => rfl
  | c :: cs, x, z, n => by
    show setL ((x :: z).set (n + 1) c) (n + 1 + 1) cs = x :: setL (z.set n c) (n + 1) cs
    rw [List.set_cons_succ]; exact setL_succ cs x (z.set n c) (n + 1)
theorem setL_over : ∀ (cs z : List Value), cs.length ≤ z.length → setL z 0 cs = overT cs z
  | [], z, _ => rfl
  | c :: cs, [], h => by simp at h
  | c :: cs, y :: z, h => by
    show setL ((y :: z).set 0 c) (0 + 1) cs = c :: overT cs z
    rw [List.set_cons_zero, setL_succ, setL_over cs z (by simpa using h)]
theorem setL_put : ∀ (n : Nat) (cs z : List Value), n + cs.length ≤ z.length → setL z n cs = putT z n cs
  | 0, cs, z, h => by
    have e : putT z 0 cs = overT cs z := by cases z <;> rfl
    rw [e]; exact setL_over cs z (by omega)
  | n + 1, cs, [], h => by simp at h
  | n + 1, cs, x :: z, h => by
    rw [setL_succ, setL_put n cs z (by simp at h; omega)]; rfl
theorem fill_quick {places : Nat → Option (Nat × Nat)} {n : Nat} {pv : List (Nat × Value)} {pd : List (Nat × List Value)} (h : PartsOk places n pv pd) : ∀ z : List Value, z.length = n → fillL z pd = fillT z pd := by
  induction h with
  | nil => intro z _; rfl
  | @cons i off v cs pv pd hp hc hle _ ih =>
    intro z hz
    simp only [fillL, fillT]
    rw [← setL_put off cs z (by omega)]
    exact ih _ (by rw [setL_length, hz])
section
variable {P : Program} {L : Env} {hs : List HProp} {dst : Option Tmp} {ty : TypeId} {pos : String} {aft : Array Edge} {g : Option (Nat × Bool)}
theorem Yld.buildS {t : TypeId} {ps : List (Nat × Operand)} {pv : List (Nat × Value)} {places : Array (Nat × Nat)} {z cs : List Value} {pd : List (Nat × List Value)} {n : Nat}
    (hz : ∀ w, (zeroValue t).run P w = .ok (.agg z.toArray) w)
    (hpl : ∃ fs : Array Field, (∀ w, (underlying t).run P w = .ok (.struct fs) w) ∧ ∀ w, (fs.mapM fun (f : Field) => do pure (f.offset, ← sizeOf f.type) : Sem (Array (Nat × Nat))).run P w = .ok places w) (hn : z.length = n)
    (hp : evPs L ps = some pv) (hok : PartsOk (places[·]?) n pv pd) (hcs : fillT z pd = cs) :
    Yld P ⟨dst, .build t ps.toArray, ty, pos, aft, g⟩ L hs (.agg cs.toArray) := Yld.build hp fun w => by
  have hf := fill_parts hok z hn
  rw [fill_quick hok z hn, hcs] at hf
  obtain ⟨fs, hu, hpl⟩ := hpl
  simp only [Instr.build, Sem.run_bind, hz w, Result.andThen_ok, hu w, hpl w, Value.cells, hf, Sem.run_pure, List.toList_toArray]
theorem overT_all : ∀ (cs z : List Value), z.length = cs.length → overT cs z = cs
  | [], z, h => List.eq_nil_of_length_eq_zero h
  | c :: cs, [], h => by simp at h
  | c :: cs, y :: z, h => by
    show c :: overT cs z = c :: cs
    rw [overT_all cs z (by simpa using h)]
theorem fill_one {size : Nat} {z : Array Value} {v : Value} {cs : List Value} (hz : z.size = size) (hc : v.cells = cs.toArray) (hk : cs.length = size) : Instr.fill (fun i => some (i * size, size)) z [(0, v)] = some cs.toArray := by
  have e1 : (v.cells.size ≠ size || decide (0 * size + v.cells.size > z.size)) = false := by simp [hc, hz, hk]
  simp only [Instr.fill]
  rw [if_neg (by simpa using e1)]
  have e2 : cs.toArray.zipIdx.foldl (fun (a : Array Value) (x : Value × Nat) => a.setIfInBounds (0 * size + x.2) x.1) z = (setL z.toList 0 cs).toArray := by
    have := setL_foldl cs z.toList 0 0
    simpa using this
  rw [hc]
  refine Eq.trans (congrArg some e2) ?_
  rw [setL_over cs z.toList (by simp [hz, hk]), overT_all cs z.toList (by simp [hz, hk])]
theorem OpC.buildOne {t : TypeId} {ps : List (Nat × Operand)} {v : Value} {elem size : Nat} {z : Value} {cs : List Value}
    (hu : ∀ w, (underlying t).run P w = .ok (.slice elem) w) (hsz : ∀ w, (sizeOf elem).run P w = .ok size w) (hz : ∀ w, (zeroValue elem).run P w = .ok z w) (hp : evPs L ps = some [(0, v)])
    (hc : v.cells = cs.toArray) (hk : cs.length = size) (h0 : (1 * size == 0) = false) (hsm : 1 * size ≤ 16777216) :
    OpC P ⟨dst, .buildSlice t 1 ps.toArray, ty, pos, aft, g⟩ L hs (X := Nat) (fun b => .slice (some ⟨b, 0, none⟩) 1 1) (fun b => cel true b elem cs :: hs) :=
  OpC.buildSlice hu hsz hz hp h0 hsm (fill_one (by simp) hc hk)
theorem OpC.buildN {t : TypeId} {len : Nat} {ps : List (Nat × Operand)} {pv : List (Nat × Value)} {elem size : Nat} {z : Value} {cs : List Value} {pd : List (Nat × List Value)}
    (hu : ∀ w, (underlying t).run P w = .ok (.slice elem) w) (hsz : ∀ w, (sizeOf elem).run P w = .ok size w) (hz : ∀ w, (zeroValue elem).run P w = .ok z w) (hp : evPs L ps = some pv)
    (h0 : (len * size == 0) = false) (hsm : len * size ≤ 16777216) (hok : PartsOk (fun i => some (i * size, size)) (len * size) pv pd) (hcs : ∀ z : List Value, z.length = len * size → fillT z pd = cs) :
    OpC P ⟨dst, .buildSlice t len ps.toArray, ty, pos, aft, g⟩ L hs (X := Nat) (fun b => .slice (some ⟨b, 0, none⟩) len len) (fun b => cel true b elem cs :: hs) :=
  OpC.buildSlice hu hsz hz hp h0 hsm (by
    generalize hZ : (Array.range (len * size)).map (z.cells[· % z.cells.size]!) = Z
    have hl : Z.toList.length = len * size := by rw [← hZ]; simp
    have h := fill_parts hok Z.toList hl
    rw [fill_quick hok Z.toList hl, hcs Z.toList hl] at h
    simpa using h)
end
end Go.Sl
