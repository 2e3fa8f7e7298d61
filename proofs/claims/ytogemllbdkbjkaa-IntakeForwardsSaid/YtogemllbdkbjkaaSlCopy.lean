/- Rows copied, cut, cleared, within one block of memory and between two. -/
import Derived.Test.YtogemllbdkbjkaaSlElem
import Derived.Lib.AppendZerosOnto
import Derived.Lib.Overlaps
set_option linter.unusedVariables false
set_option linter.unusedSimpArgs false
namespace Go.Sl
open Go
def putL (vs : List Value) (o : Nat) (ds : List Value) : List Value := vs.take o ++ ds ++ vs.drop (o + ds.length)
theorem putL_mid {X Y Z D : List Value} {o : Nat} (ho : X.length = o) (hl : Y.length = D.length) : putL (X ++ Y ++ Z) o D = X ++ D ++ Z := by
  subst ho
  unfold putL
  have e1 : (X ++ Y ++ Z).take X.length = X := by rw [List.append_assoc, List.take_left']; rfl
  have e2 : (X ++ Y ++ Z).drop (X.length + D.length) = Z := by
    rw [← hl, ← List.length_append]; exact List.drop_left' rfl
  rw [e1, e2]
theorem setL_putL : ∀ (ds vs : List Value) (o : Nat), o + ds.length ≤ vs.length → setL vs o ds = putL vs o ds
  | [], vs, o, _ => by simp [setL, putL]
  | d :: ds, vs, o, h => by
    show setL (vs.set o d) (o + 1) ds = _
    rw [setL_putL ds _ _ (by simp at h ⊢; omega)]
    simp only [List.length_cons] at h
    have h2 : o < vs.length := by omega
    have e : vs.set o d = vs.take o ++ [d] ++ vs.drop (o + 1) := by
      rw [List.set_eq_take_append_cons_drop, if_pos h2]; simp
    unfold putL
    rw [e]
    have e1 : (vs.take o ++ [d] ++ vs.drop (o + 1)).take (o + 1) = vs.take o ++ [d] := List.take_left' (by simp; omega)
    have e2 : (vs.take o ++ [d] ++ vs.drop (o + 1)).drop (o + 1 + ds.length) = vs.drop (o + (ds.length + 1)) := by
      rw [List.drop_append, List.drop_eq_nil_of_le (by simp; omega), List.nil_append, List.drop_drop]
      congr 1; simp; omega
    rw [e1, e2]; simp
/-- the cells at an address, as they lie -/
def Reads (hs : List HProp) (a : Addr) (ds : List Value) : Prop := ∀ (w : World) (F : HProp), Holds w (Hs hs F) → ∀ j v, ds[j]? = some v → w.cell? (a.add j) = some v
theorem Reads.cel {hs hs' : List HProp} {m : Bool} {b o : Nat} {T : TypeId} {vs ds : List Value} (hp : Pick hs (Sl.cel m b T vs) hs') (h : (vs.drop o).take ds.length = ds) : Reads hs ⟨b, o, none⟩ ds := fun w F hh j v hj => by
  rw [addr_add]
  exact ((hh.mono hp.to).left).cell (aggAt h j v hj)
theorem Reads.sl {hs hs' : List HProp} {m : Bool} {k n cap q : Nat} {a : Addr} {cs ds : List Value} (hp : Pick hs (Sl.sl m k (.slice (some a) n cap) n cs) hs') (h : cs.take q = ds) : Reads hs a ds := fun w F hh j v hj => by
  obtain ⟨r, hr, r1, r2, hok, rfl, hsl, hF⟩ := hh.mono hp.to
  have hj2 : cs[j]? = some v := by
    rw [← h, List.getElem?_take] at hj
    split at hj
    · exact hj
    · cases hj
  have hjl : j < cs.length := (List.getElem?_eq_some_iff.1 hj2).1
  obtain ⟨b, T, o, pre, post, he, hpre, _, _, _, hcel⟩ := sl_open hsl hjl
  cases he
  rw [addr_add]
  have h2 : Holds w (Sl.cel m b T (pre ++ cs ++ post)) := ⟨_, Res.on_left hr, hcel⟩
  refine h2.cell ?_
  rw [List.append_assoc, List.getElem?_append_right (by omega), show o + j - pre.length = j by omega, List.getElem?_append_left hjl]
  exact hj2
theorem Reads.slO {hs hs' : List HProp} {m : Bool} {k n cap q b o : Nat} {cs ds : List Value} (hp : Pick hs (Sl.sl m k (.slice (some ⟨b, o, none⟩) n cap) n cs) hs') (h : (cs.drop q).take ds.length = ds) : Reads hs ⟨b, o + q, none⟩ ds := fun w F hh j v hj => by
  obtain ⟨r, hr, r1, r2, hok, rfl, hsl, hF⟩ := hh.mono hp.to
  have hj2 : cs[q + j]? = some v := aggAt h j v hj
  have hjl : q + j < cs.length := (List.getElem?_eq_some_iff.1 hj2).1
  obtain ⟨b', T, o', pre, post, he, hpre, _, _, _, hcel⟩ := sl_open hsl hjl
  cases he
  rw [addr_add]
  have h2 : Holds w (Sl.cel m b T (pre ++ cs ++ post)) := ⟨_, Res.on_left hr, hcel⟩
  refine h2.cell ?_
  rw [List.append_assoc, List.getElem?_append_right (by omega), show o + q + j - pre.length = q + j by omega, List.getElem?_append_left hjl]
  exact hj2
/-- a slice that has cells has an address -/
theorem sl_some {m : Bool} {k n cap : Nat} {a : Option Addr} {cs : List Value} (hc : 0 < cs.length) : ∀ r, sl m k (.slice a n cap) n cs r → ∃ b o, a = some ⟨b, o, none⟩ := fun r h => by
  obtain ⟨b, T, o, pre, post, he, _⟩ := sl_open h hc
  exact ⟨b, o, he⟩
theorem run_copyK {P : Program} (w : World) (dT sT ty elem : TypeId) (k g o dLen dCap : Nat) (a : Addr) (sLen sCap : Nat) (cur : Array Value) (t : TypeId) (cs : List Value)
    (hu : P.underlying dT = some (.slice elem)) (hs : (P.info? elem).map (·.size) = some k) (hg : w.heap[g]? = some (.cells cur t (0, 0))) (hn : cs.length = Nat.min sLen dLen * k)
    (hsrc : ∀ j v, cs[j]? = some v → w.cell? (a.add j) = some v) (hfit : o + cs.length ≤ cur.size) (h1 : ∀ v ∈ cs, v.oneCell' = true) :
    (Builtin.copy_ #[dT, sT] ty #[.slice (some ⟨g, o, none⟩) dLen dCap, .slice (some a) sLen sCap]).run P w =
      .ok (goInt (Nat.min sLen dLen : Nat)) (w.setRow g (cur.toList.take o ++ cs ++ cur.toList.drop (o + cs.length)).toArray) := by
  have hl := run_loadCells_list (P := P) w a cs hsrc
  have hst := run_storeCells_at P g o t cs 0 cur w hg (by simpa using hfit) h1
  cases hq : P.info? elem with
  | none => simp [hq] at hs
  | some i =>
    have hi : i.size = k := by simpa [hq] using hs
    simp [Builtin.copy_, run_underlying hu, Builtin.lenOf, Builtin.firstCells, sizeOf, typeInfo, hq, hi, ← hn, hl, hst]
section
variable {P : Program} {L : Env} {hs hs' : List HProp} {dst : Option Tmp} {ty : TypeId} {pos : String} {aft : Array Edge} {g : Option (Nat × Bool)}
theorem OpC.copy {x y : Operand} {dT sT elem k b o n1 c1 n2 c2 j : Nat} {a : Addr} {T : TypeId} {vs ds vs' : List Value} (hu : P.underlying dT = some (.slice elem)) (hk : (P.info? elem).map (·.size) = some k)
    (hx : L.ev x = some (.slice (some ⟨b, o, none⟩) n1 c1)) (hy : L.ev y = some (.slice (some a) n2 c2)) (hp : Pick hs (Sl.cel true b T vs) hs') (hr : Reads hs a ds) (hj : Nat.min n2 n1 = j) (hl : ds.length = j * k) (hc : ds.all isCell = true)
    (hfit : o + ds.length ≤ vs.length) (hv : putL vs o ds = vs') :
    OpC P ⟨dst, .call ⟨.builtin .copy, #[x, y], #[dT, sT]⟩, ty, pos, aft, g⟩ L hs (X := Unit) (fun _ => vI j) (fun _ => Sl.cel true b T vs' :: hs') := .of_run fun ρ w F hev hh => by
  subst hj; subst hv
  have h := hh.mono hp.to
  have hb := (h.mono (fun _ => star_mono (fun _ => cel_own) (fun _ h => h))).left.pt
  refine ⟨(), w.setRow b (putL vs o ds).toArray, ?_, Same.setRow _ _ _, h.setRow⟩
  have hrun := fun ty => run_copyK (P := P) w dT sT ty elem k b o n1 c1 a n2 c2 vs.toArray T ds hu hk hb hl (hr w F hh) (by simpa using hfit) (by simpa using hc)
  simp only [execOp, resolve, invoke, builtin, List.map_toArray, List.map_cons, List.map_nil, hev x _ hx, hev y _ hy, Sem.run_bind, Sem.run_pure, Result.andThen_ok, hrun, goInt, putL]
/-- append(s[:q], make(.., z)...): a new row -/
theorem OpC.appendZ {m : Bool} {x y : Operand} {t tn e kk n cap q z : Nat} {bytes : Nat} {a : Option Addr} {cs : List Value} {i : TypeInfo} {zv : Value} (ht : P.underlying t = some (.slice e)) (htn : P.underlying tn = some (.int .i64)) (hi : P.info? e = some i) (hz : i.zero = some zv)
    (hk : i.size = kk) (hzs : zv.cells.size = kk) (hby : i.bytes = bytes) (hk0 : 0 < kk) (hx : L.ev x = some (.slice a q cap)) (hy : L.ev y = some (vI z)) (hp : Pick hs (Sl.sl m kk (.slice a n cap) n cs) hs') (hq : q ≤ n) (hz0 : 0 < z) (hg : cap < q + z) (hroom : Room ((q + z) * bytes)) (hsmall : q + z ≤ 4611686018427387904) :
    OpC P ⟨dst, .call ⟨.builtin .append, #[x, y], #[t, tn]⟩, ty, pos, aft, g⟩ L hs (X := { x : Nat × Nat × List Value // q + z ≤ x.2.1 ∧ x.2.2.length = (x.2.1 - q) * kk }) (fun x => .slice (some ⟨x.1.1, 0, none⟩) (q + z) x.1.2.1)
      (fun x => Sl.cel true x.1.1 e (cs.take (q * kk) ++ x.1.2.2) :: hs) := .of_run fun ρ w F hev hh => by
  subst hk; subst hby
  have hd : Holds w.drew (Hs hs F) := by obtain ⟨r, hr, h⟩ := hh; exact ⟨r, hr, h⟩
  have h1 : Holds w.drew (Sl.sl m i.size (.slice a q cap) q (cs.take (q * i.size))) := ((hd.mono hp.to).left).mono (sl_to hq)
  have hlen : (cs.take (q * i.size)).length = q * i.size := by obtain ⟨r, _, h⟩ := h1; exact sl_len h
  have hold : (Builtin.firstCells i.size q (.slice a q cap)).run P w.drew = .ok (cs.take (q * i.size)).toArray w.drew := by
    have := sl_read (P := P) h1 (Nat.le_refl q) i.size rfl
    rwa [List.take_of_length_le (by omega)] at this
  have h48 : z * i.bytes ≤ 281474976710656 := by
    unfold Room at hroom
    have : z * i.bytes ≤ (q + z) * i.bytes := Nat.mul_le_mul_right _ (by omega)
    omega
  have hrun := fun ty => Lib.run_append_grow_zeros w t tn ty e i zv .i64 .i64 ht htn hi hz a q cap (cs.take (q * i.size)) hold z hz0 hk0 hg (by omega) h48 (growslice_fits hg hroom)
  have hnc : q + z ≤ grownCap w (q + z) cap e := Nat.le_add_right _ _
  generalize grownCap w (q + z) cap e = nc at hrun hnc
  refine ⟨⟨(w.heap.size, nc, (Builtin.zeroCells zv.cells z ++ Builtin.zeroCells zv.cells (nc - (q + z))).toList), hnc, ?_⟩, w.drew.alloc (.cells ((cs.take (q * i.size)).toArray ++ Builtin.zeroCells zv.cells z ++ Builtin.zeroCells zv.cells (nc - (q + z))) e), ?_, ⟨rfl, rfl, rfl, by show w.heap.size ≤ (w.heap.push _).size; simp⟩, ?_⟩
  · simp only [Array.toList_append, List.length_append, Array.length_toList]
    have e1 : ∀ k, (Builtin.zeroCells zv.cells k).size = k * i.size := fun k => by simp [Builtin.zeroCells, hzs]
    rw [e1, e1, ← Nat.add_mul]; congr 1; omega
  · simp only [execOp, resolve, invoke, builtin, List.map_toArray, List.map_cons, List.map_nil, hev x _ hx, hev y _ hy, Sem.run_bind, Sem.run_pure, Result.andThen_ok, hrun]
  · have := hd.newCel (T := e) (vs := cs.take (q * i.size) ++ (Builtin.zeroCells zv.cells z ++ Builtin.zeroCells zv.cells (nc - (q + z))).toList)
    have ea : ((cs.take (q * i.size)).toArray ++ Builtin.zeroCells zv.cells z ++ Builtin.zeroCells zv.cells (nc - (q + z))) = (cs.take (q * i.size) ++ (Builtin.zeroCells zv.cells z ++ Builtin.zeroCells zv.cells (nc - (q + z))).toList).toArray := by
      apply Array.ext'; simp
    rw [ea]; exact this
/-- append within one block: what is appended lies in it, and there is room -/
theorem OpC.appendB {x y : Operand} {t t2 e e2 kk b o q cap j c2 : Nat} {a2 : Option Addr} {T : TypeId} {vs ds vs' : List Value} {i : TypeInfo} (hu : P.underlying t = some (.slice e)) (hi : P.info? e = some i) (hk : i.size = kk) (hu2 : P.underlying t2 = some (.slice e2))
    (hx : L.ev x = some (.slice (some ⟨b, o, none⟩) q cap)) (hy : L.ev y = some (.slice a2 j c2)) (hp : Pick hs (Sl.cel true b T vs) hs') (hr : j = 0 ∨ ∃ a, a2 = some a ∧ Reads hs a ds) (hl : ds.length = j * kk) (hc : ds.all isCell = true)
    (hfit : q + j ≤ cap) (hfit2 : o + q * kk + ds.length ≤ vs.length) (hv : putL vs (o + q * kk) ds = vs') :
    OpC P ⟨dst, .call ⟨.builtin .append, #[x, y], #[t, t2]⟩, ty, pos, aft, g⟩ L hs (X := Unit) (fun _ => .slice (some ⟨b, o, none⟩) (q + j) cap) (fun _ => Sl.cel true b T vs' :: hs') := .of_run fun ρ w F hev hh => by
  subst hk; subst hv
  have h := hh.mono hp.to
  have hread : ∀ (w' : World), Holds w' (Hs hs F) → (Builtin.firstCells i.size j (.slice a2 j c2)).run P w' = .ok ds.toArray w' := fun w' hw' => by
    rcases hr with rfl | ⟨a, rfl, hr⟩
    · have : ds = [] := List.eq_nil_of_length_eq_zero (by simpa using hl)
      subst this
      cases a2 <;> simp [Builtin.firstCells, Sem.run_pure, loadCells, loadCellsFrom]
    · have := run_loadCells_list (P := P) w' a ds (hr w' F hw')
      simpa [Builtin.firstCells, hl] using this
  have hd : Holds w.drew (Hs hs F) := by obtain ⟨r, hr, h⟩ := hh; exact ⟨r, hr, h⟩
  have hsrc : Src P i.size t2 (.slice a2 j c2) j ds w := ⟨.inl ⟨e2, hu2⟩, fun w' => rfl, hread w hh, hread w.drew hd, hl, by simpa using hc⟩
  have hin : ∀ q', q' < ds.length → o + q * i.size + q' < vs.length := by intro q' hq'; omega
  have hrun := fun ty => run_append_room_src w t t2 ty e i hu hi b o q cap (.slice a2 j c2) j ds hsrc hfit (fun q' hq' => by
      rw [h.left.cell (v := vs[o + q * i.size + q']'(hin q' hq')) (by simp [hin q' hq'])]; rfl) (fun q' hq' => h.left.free _)
  refine ⟨(), _, append_op (hev x _ hx) (hev y _ hy) (fun ty' => hrun ty'), Same.setCells b ds w _, ?_⟩
  have h2 := h.setCells ds w vs (o + q * i.size)
  rw [setL_putL _ _ _ (by omega)] at h2
  exact h2
theorem OpC.clearB {x : Operand} {t e b o n cap kk : Nat} {T : TypeId} {vs : List Value} {zv : Value} {zc : List Value} (hu : P.underlying t = some (.slice e)) (hz : ∀ w, (zeroValue e).run P w = .ok zv w) (hzc : zv.cells = zc.toArray) (hk : zc.length = kk) (hcc : zc.all isCell = true)
    (hx : L.ev x = some (.slice (some ⟨b, o, none⟩) n cap)) (hp : Pick hs (Sl.cel true b T vs) hs') (hfit : o + n * kk ≤ vs.length) :
    OpC P ⟨dst, .call ⟨.builtin .clear, #[x], #[t]⟩, ty, pos, aft, g⟩ L hs (X := { ds : List Value // ds.length = n * kk }) (fun _ => .tuple #[]) (fun ds => Sl.cel true b T (putL vs o ds.1) :: hs') := .of_run fun ρ w F hev hh => by
  have h := hh.mono hp.to
  have hb := (h.mono (fun _ => star_mono (fun _ => cel_own) (fun _ h => h))).left.pt
  have hzl : (Builtin.zeroCells zv.cells n).toList.length = n * kk := by simp [Builtin.zeroCells, hzc, hk]
  have hall : ∀ v ∈ (Builtin.zeroCells zv.cells n).toList, v.oneCell' = true := fun v hv => by
    simp only [Builtin.zeroCells, Array.toList_map, List.mem_map, Array.toList_range, List.mem_range] at hv
    obtain ⟨q, hq, rfl⟩ := hv
    have hpos : 0 < zc.length := by
      rcases Nat.eq_zero_or_pos zc.length with h0 | h0
      · simp [hzc, h0] at hq
      · exact h0
    have h2 : q % zv.cells.size < zc.length := by rw [hzc]; simpa using Nat.mod_lt q hpos
    have h3 : zv.cells[q % zv.cells.size]! ∈ zc := by
      have h4 : zv.cells[q % zv.cells.size]! = zc[q % zv.cells.size] := by
        have h2' : q % zv.cells.size < zv.cells.size := by rw [hzc] at h2 ⊢; simpa using h2
        rw [getElem!_pos zv.cells _ h2']
        simp [hzc]
      rw [h4]; exact List.getElem_mem _
    exact (List.all_eq_true.1 hcc) _ h3
  cases n with
  | zero =>
    refine ⟨⟨[], by simp⟩, w, ?_, Same.refl w, ?_⟩
    · simp only [execOp, resolve, invoke, builtin, Builtin.clear_, List.map_toArray, List.map_cons, List.map_nil, hev x _ hx, Sem.run_bind, Sem.run_pure, Result.andThen_ok]
      simp [run_underlying hu, Sem.run_pure]
    · have : putL vs o [] = vs := by simp [putL]
      rw [this]; exact h
  | succ n =>
    have hst := run_storeCells_at P b o T (Builtin.zeroCells zv.cells (n + 1)).toList 0 vs.toArray w hb (by simp only [hzl, Nat.add_zero, List.size_toArray]; exact hfit) hall
    refine ⟨⟨(Builtin.zeroCells zv.cells (n + 1)).toList, hzl⟩, w.setRow b (putL vs o (Builtin.zeroCells zv.cells (n + 1)).toList).toArray, ?_, Same.setRow _ _ _, h.setRow⟩
    simp only [execOp, resolve, invoke, builtin, Builtin.clear_, List.map_toArray, List.map_cons, List.map_nil, hev x _ hx, Sem.run_bind, Sem.run_pure, Result.andThen_ok]
    simp only [Nat.add_zero] at hst
    simp [run_underlying hu, Sem.run_pure, hz, hst, putL]
theorem subS_lt {b o l h m k : Nat} (hl : l < m) : subS (some ⟨b, o, none⟩) l h m k = .slice (some ⟨b, o + l * k, none⟩) (h - l) (m - l) := by
  unfold subS
  rw [if_neg (by omega)]
  simp [addr_add]
/-- a part of a slice, by its ends -/
theorem Yld.sliceLH {t e k : TypeId} {x y z : Operand} {a : Option Addr} {n cap : Nat} {l h : Int} (hu : P.underlying t = some (.slice e)) (hsz : ∀ w, (sizeOf e).run P w = .ok k w) (hx : L.ev x = some (.slice a n cap)) (hy : L.ev y = some (vI l)) (hz : L.ev z = some (vI h)) (h0 : 0 ≤ l) (h1 : l ≤ h) (h2 : h ≤ cap) :
    Yld P ⟨dst, .slice t x (some y) (some z) none, ty, pos, aft, g⟩ L hs (subS a l.toNat h.toNat cap k) := by
  intro ρ w F hev hh
  have hb : (Instr.sliceBounds true n cap (some (vI l)) (some (vI h)) none).run P w = .ok (l.toNat, h.toNat, cap) w := by
    simp only [Instr.sliceBounds, Sem.run_bind, Sem.run_pure, Result.andThen_ok, Option.isSome_none, Bool.false_eq_true, if_false, run_sliceBound w .i64 h cap _ (by omega) h2, run_sliceBound w .i64 l h.toNat _ h0 (by omega)]
  simp only [execOp, hev x _ hx, hev y _ hy, hev z _ hz, Option.map_some, Option.map_none, Sem.run_bind, run_sub hu hsz hb, Result.andThen_ok, Sem.run_pure]
theorem Yld.slice3 {t e k : TypeId} {x y z u : Operand} {a : Option Addr} {n cap : Nat} {l h m : Int} (hu : P.underlying t = some (.slice e)) (hsz : ∀ w, (sizeOf e).run P w = .ok k w) (hx : L.ev x = some (.slice a n cap)) (hy : L.ev y = some (vI l)) (hz : L.ev z = some (vI h)) (hm : L.ev u = some (vI m)) (h0 : 0 ≤ l) (h1 : l ≤ h) (h2 : h ≤ m) (h3 : m ≤ cap) :
    Yld P ⟨dst, .slice t x (some y) (some z) (some u), ty, pos, aft, g⟩ L hs (subS a l.toNat h.toNat m.toNat k) := by
  intro ρ w F hev hh
  have he : P.underlying t = some (.slice (P.elem t)) := by rw [hu]; simp [Program.elem, hu]
  have hb : (Instr.sliceBounds true n cap (some (vI l)) (some (vI h)) (some (vI m))).run P w = .ok (l.toNat, h.toNat, m.toNat) w := by
    simp only [Instr.sliceBounds, Sem.run_bind, Sem.run_pure, Result.andThen_ok, Option.isSome_some, if_true, run_sliceBound w .i64 m cap _ (by omega) h3, run_sliceBound w .i64 h m.toNat _ (by omega) (by omega), run_sliceBound w .i64 l h.toNat _ h0 (by omega)]
  have hr : (Instr.sliceAt t (.slice a n cap) (some (vI l)) (some (vI h)) (some (vI m))).run P w = .ok (subS a l.toNat h.toNat m.toNat k) w := by
    rw [run_sliceAt_slice w t _ _ _ _ he]
    simp only [Instr.slice, Sem.run_bind, run_underlying hu, Result.andThen_ok, hb, hsz, Sem.run_pure, subS]
  simp only [execOp, hev x _ hx, hev y _ hy, hev z _ hz, hev u _ hm, Option.map_some, Sem.run_bind, hr, Result.andThen_ok, Sem.run_pure]
/-- two rows in two blocks don't overlap -/
theorem OpC.overlaps {f : FuncId} {fn : Func} {tS tR e size : Nat} {x y : Operand} {T2 : Array TypeId} {b1 o1 n1 c1 b2 o2 n2 c2 : Nat} {TA TB : TypeId} {us vs : List Value} {hs'' : List HProp} (hf : P.funcs[f]? = some fn) (hname : (fn.name == "runtime.NumGoroutine") = false)
    (hb : fn.body.isNone = true) (hn : Extern.findNext fn = none) (he : Extern.find fn = some (Extern.SlicesOverlaps.overlaps #[tS, tS] #[tR])) (ht : P.underlying tS = some (.slice e)) (hz : ∀ w, (Go.sizeOf e).run P w = .ok size w)
    (hx : L.ev x = some (.slice (some ⟨b1, o1, none⟩) n1 c1)) (hy : L.ev y = some (.slice (some ⟨b2, o2, none⟩) n2 c2)) (hp : Pick hs (Sl.cel true b1 TA us) hs') (hp2 : Pick hs' (Sl.cel true b2 TB vs) hs'') (h0 : vs.length ≠ 0) :
    OpC P ⟨dst, .call ⟨.value (.func f), #[x, y], T2⟩, ty, pos, aft, g⟩ L hs (X := Unit) (fun _ => .bool false) (fun _ => hs) := .of_run fun ρ w F hev hh => by
  have h1 := hh.mono hp.to
  have h2 : Holds w (Sl.cel true b2 TB vs) := (h1.right.mono hp2.to).left
  have hne : b1 ≠ b2 := fun e => by
    obtain ⟨r, hr, r1, r2, hok, rfl, ⟨fr, hf1, hc1⟩, hF⟩ := h1
    obtain ⟨r3, r4, hok2, rfl, ⟨fr2, hf2, hc2⟩, _⟩ := hp2.to r2 hF
    subst e
    have := (hok b1 _ _ hc1 (Res.add_left hc2)).1
    simp at this
  have hrun : (callFunc f #[.slice (some ⟨b1, o1, none⟩) n1 c1, .slice (some ⟨b2, o2, none⟩) n2 c2]).run P w = .ok (.value (.bool false)) w := by
    rw [run_callFunc_extern hf hname hb hn he, Lib.run_overlaps_apart w tS tR e ht size hz ⟨b1, o1, none⟩ ⟨b2, o2, none⟩ n1 c1 n2 c2 hne TA TB us.length vs.length h1.left.shape h2.shape h0 (h1.left.free _) (h1.left.free _)]
    rfl
  refine ⟨(), w, ?_, Same.refl w, hh⟩
  have e3 : ρ (.func f) = .func (.func f) #[] #[] := hev (.func f) _ rfl
  simp only [execOp, resolve, List.map_toArray, List.map_cons, List.map_nil, hev x _ hx, hev y _ hy, e3, Deferred.ofValue, Sem.run_bind, Sem.run_pure, Result.andThen_ok, invoke, Array.append_empty, Array.empty_append, hrun]
end
end Go.Sl
