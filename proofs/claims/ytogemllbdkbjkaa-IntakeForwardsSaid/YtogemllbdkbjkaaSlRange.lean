/- Ranges over maps, and what empties them. -/
import Derived.Test.YtogemllbdkbjkaaSlMap
import Derived.Maps.RangeRun
set_option linter.unusedVariables false
set_option linter.unusedSimpArgs false
namespace Go.Sl
open Go
/-- the stamp of the entry at a place -/
def bornAt (es : Array MapEntry) (i : Nat) : Nat := ((es.toList[i]?).map (·.born)).getD 0
/-- a map, and a walk over it that has met the entries at these places -/
def mapR {κ : Type} (enc : κ → Value) (r b : Nat) (l : List (κ × Value)) (is : List Nat) : HProp := fun q =>
  ∃ es clock seen, pairs es.toList = l.map (fun x => (enc x.1, x.2)) ∧ MapOk es clock ∧ (∀ i ∈ is, i < l.length) ∧ is.Nodup ∧ seen.toList = is.map (bornAt es) ∧
    star (pt true b (.mapIter (some r) clock seen clock)) (pt true r (.map es clock)) q
theorem star_right {A B : HProp} (hb : Mono B) {r : Res} (h : star A B r) : B r := by
  obtain ⟨r1, r2, hok, rfl, _, h2⟩ := h
  exact hb r2 _ (fun b x hx => Res.add_right hok hx) h2
theorem mapR_A {κ : Type} {enc : κ → Value} {r b : Nat} {l : List (κ × Value)} {is : List Nat} : ∀ q, mapR enc r b l is q → mapA enc r l q := fun q ⟨es, c, seen, h1, h2, _, _, _, h⟩ =>
  ⟨es, c, h1, h2, star_right Mono.pt h⟩
section
variable {P : Program} {L : Env} {hs hs' : List HProp} {dst : Option Tmp} {ty : TypeId} {pos : String} {aft : Array Edge} {g : Option (Nat × Bool)} {κ : Type} {enc : κ → Value}
theorem Holds.drew {w : World} {A : HProp} (h : Holds w A) : Holds w.drew A := h
theorem OpC.range {x : Operand} {r : Nat} {l : List (κ × Value)} {T K E : TypeId} (hu : ∀ w, (underlying T).run P w = .ok (.map K E) w) (hx : L.ev x = some (.map (some r))) (hp : Pick hs (Sl.mapA enc r l) hs') :
    OpC P ⟨dst, .range T x, ty, pos, aft, g⟩ L hs (X := Nat) (fun b => ptr b) (fun b => Sl.mapR enc r b l [] :: hs') := .of_run fun ρ w F hev hh => by
  obtain ⟨es, c, h1, h2, h3, h4⟩ := (hh.mono hp.to).mapA
  refine ⟨w.heap.size, { w with heap := w.heap.push (.mapIter (some r) c #[] c) }, ?_, Same.push _ _, ?_⟩
  · simp only [execOp, hev x _ hx, Instr.range, Sem.run_bind, hu, Result.andThen_ok, run_getObj h3, Sem.run_pure, newObj]
    rfl
  · refine (h4.new (o := .mapIter (some r) c #[] c)).mono fun q hq => ?_
    exact star_mono (fun q hq => ⟨es, c, #[], h1, h2, by simp, by simp, by simp, hq⟩) (fun _ h => h) (star_assoc' hq)
theorem nodup_at {l : List Nat} (h : l.Nodup) {i j a : Nat} (hi : l[i]? = some a) (hj : l[j]? = some a) : i = j := by
  obtain ⟨h1, e1⟩ := List.getElem?_eq_some_iff.1 hi
  obtain ⟨h2, e2⟩ := List.getElem?_eq_some_iff.1 hj
  rcases Nat.lt_trichotomy i j with hlt | rfl | hlt
  · exact absurd (e1.trans e2.symm) (List.pairwise_iff_getElem.1 h i j h1 h2 hlt)
  · rfl
  · exact absurd (e2.trans e1.symm) (List.pairwise_iff_getElem.1 h j i h2 h1 hlt)
theorem OpC.next {x : Operand} {r b : Nat} {l : List (κ × Value)} {is : List Nat} (hx : L.ev x = some (ptr b)) (hp : Pick hs (Sl.mapR enc r b l is) hs') :
    OpC P ⟨dst, .next x false, ty, pos, aft, g⟩ L hs (X := Option (Nat × κ × Value)) (fun o => match o with | none => .tuple #[.bool false] | some y => .tuple #[.bool true, enc y.2.1, y.2.2])
      (fun o => match o with | none => lift (is.Perm (List.range l.length)) :: Sl.mapA enc r l :: hs' | some y => lift (l[y.1]? = some (y.2.1, y.2.2) ∧ y.1 ∉ is) :: Sl.mapR enc r b l (is ++ [y.1]) :: hs') := .of_run fun ρ w F hev hh => by
  obtain ⟨q, hq, q1, q2, hok, he, ⟨es, c, seen, h1, h2, h5, h6, h7, h8⟩, hF⟩ := hh.mono hp.to
  have h4 : Holds w (star (Sl.pt true b (.mapIter (some r) c seen c)) (star (Sl.pt true r (.map es c)) (Hs hs' F))) := ⟨q, hq, star_assoc ⟨q1, q2, hok, he, h8, hF⟩⟩
  have hb := h4.left.pt
  have hr := h4.right.left.pt
  have hlen : es.toList.length = l.length := by have := congrArg List.length h1; simpa [pairs] using this
  have hex : (execOp ρ ⟨dst, .next x false, ty, pos, aft, g⟩).run P w = ((Instr.next (ptr b) false ty).run P w).andThen fun v w => .ok (.value v) w := by
    simp only [execOp, hev x _ hx, Sem.run_bind]; rfl
  rcases run_next_at (P := P) w ty b r c c seen es c hb hr (fun e he => h2.1 e (by simpa using he)) (Nat.le_refl _) with ⟨h0, hrun⟩ | ⟨e, hel, w1, hw1, hrun⟩
  · refine ⟨none, w, ?_, Same.refl w, ?_⟩
    · rw [hex, hrun]; rfl
    · have hall : ∀ e ∈ es.toList, e.born ∈ seen.toList := fun e hel => by
        have he0 : leftOf es seen = #[] := Array.eq_empty_of_size_eq_zero h0
        unfold leftOf at he0
        rw [Array.filter_eq_empty_iff] at he0
        have := he0 e (by simpa using hel)
        simpa using this
      have hperm : is.Perm (List.range l.length) := by
        rw [List.perm_ext_iff_of_nodup h6 List.nodup_range]
        intro i
        rw [List.mem_range]
        refine ⟨h5 i, fun hi => ?_⟩
        obtain ⟨e, hei⟩ : ∃ e, es.toList[i]? = some e := ⟨es.toList[i]'(by omega), by simp⟩
        have hm := hall e (List.mem_of_getElem? hei)
        rw [h7] at hm
        obtain ⟨j, hj, hje⟩ := List.mem_map.1 hm
        have hj2 := h5 j hj
        obtain ⟨e2, hej⟩ : ∃ e, es.toList[j]? = some e := ⟨es.toList[j]'(by omega), by simp⟩
        have hb2 : e2.born = e.born := by simpa [bornAt, hej] using hje
        have : j = i := nodup_at h2.2 (a := e.born) (by simp only [List.getElem?_map, hej, Option.map_some, hb2]) (by simp only [List.getElem?_map, hei, Option.map_some])
        exact this ▸ hj
      exact (h4.right).mono fun q hq => star_lift hperm (star_mono (fun q hq => ⟨es, c, h1, h2, hq⟩) (fun _ h => h) hq)
  · have hm : e ∈ es.toList ∧ e.born ∉ seen.toList := by
      unfold leftOf at hel
      simpa using hel
    obtain ⟨i, hi, hie⟩ := List.getElem_of_mem hm.1
    have hei : es.toList[i]? = some e := by rw [List.getElem?_eq_getElem hi, hie]
    obtain ⟨y, hy⟩ : ∃ y, l[i]? = some y := ⟨l[i]'(by omega), by simp⟩
    obtain ⟨e3, he3, hk3, hv3⟩ := pairs_get h1 hy
    rw [hei] at he3; cases he3
    refine ⟨some (i, y.1, y.2), ChangeMaps.setBlock w1 b (.mapIter (some r) c (seen.push e.born) c), ?_, ?_, ?_⟩
    · rw [hex, hrun]; simp only [Result.andThen_ok, hk3, hv3]
    · have hsz : ∀ w : World, w.heap.size ≤ (ChangeMaps.setBlock w b (.mapIter (some r) c (seen.push e.born) c)).heap.size := fun w => by simp [ChangeMaps.setBlock]
      rcases hw1 with rfl | rfl
      · exact ⟨rfl, rfl, rfl, hsz w1⟩
      · exact ⟨rfl, rfl, rfl, hsz w⟩
    · have hni : i ∉ is := fun hc => hm.2 (by rw [h7]; exact List.mem_map.2 ⟨i, hc, by simp [bornAt, hei]⟩)
      have h9 : Holds w1 (star (Sl.pt true b (.mapIter (some r) c seen c)) (star (Sl.pt true r (.map es c)) (Hs hs' F))) := by rcases hw1 with rfl | rfl <;> exact h4
      refine (h9.putMap (o' := .mapIter (some r) c (seen.push e.born) c)).mono fun q hq => star_lift ⟨hy, hni⟩ ?_
      refine star_mono (fun q hq => ⟨es, c, seen.push e.born, h1, h2, ?_, ?_, ?_, hq⟩) (fun _ h => h) (star_assoc' hq)
      · intro j hj
        rcases List.mem_append.1 hj with h | h
        · exact h5 j h
        · simp only [List.mem_singleton] at h; subst h; omega
      · rw [List.nodup_append]
        exact ⟨h6, by simp, fun a ha b hb => by simp only [List.mem_singleton] at hb; subst hb; exact fun e => hni (e ▸ ha)⟩
      · simp [h7, bornAt, hei]
theorem Yld.entry {x : Operand} {r b i : Nat} {l : List (κ × Value)} {is : List Nat} {y : κ × Value} (hx : L.ev x = some (ptr b)) (hp : Pick hs (Sl.mapR enc r b l (is ++ [i])) hs') (hy : l[i]? = some y) :
    Yld P ⟨dst, .entry x, ty, pos, aft, g⟩ L hs (.tuple #[enc y.1, y.2]) := by
  intro ρ w F hev hh
  obtain ⟨q, hq, q1, q2, hok, he, ⟨es, c, seen, h1, h2, h5, h6, h7, h8⟩, hF⟩ := hh.mono hp.to
  have h4 : Holds w (star (Sl.pt true b (.mapIter (some r) c seen c)) (star (Sl.pt true r (.map es c)) (Hs hs' F))) := ⟨q, hq, star_assoc ⟨q1, q2, hok, he, h8, hF⟩⟩
  have hb := h4.left.pt
  have hr := h4.right.left.pt
  obtain ⟨e, hei, hk, hv⟩ := pairs_get h1 hy
  have hs2 : seen = (is.map (bornAt es)).toArray.push e.born := by
    apply Array.ext'
    rw [h7]; simp [bornAt, hei]
  rw [hs2] at hb
  have hrun := run_entry_at (P := P) w b r c _ es c e hb hr (List.mem_of_getElem? hei) h2.2
  simp only [execOp, hev x _ hx, Sem.run_bind]
  rw [show (ptr b : Value) = .pointer (some ⟨b, 0, none⟩) from rfl, hrun]
  simp only [Result.andThen_ok, Sem.run_pure, hk, hv]
theorem OpC.clear {x : Operand} {r : Nat} {l : List (κ × Value)} {T K E : TypeId} (hu : ∀ w, (underlying T).run P w = .ok (.map K E) w) (hx : L.ev x = some (.map (some r))) (hp : Pick hs (Sl.mapA enc r l) hs') :
    OpC P ⟨dst, .call ⟨.builtin .clear, #[x], #[T]⟩, ty, pos, aft, g⟩ L hs (X := Unit) (fun _ => .tuple #[]) (fun _ => Sl.mapA enc r [] :: hs') := .of_run fun ρ w F hev hh => by
  obtain ⟨es, c, h1, h2, h3, h4⟩ := (hh.mono hp.to).mapA
  refine ⟨(), { w with heap := w.heap.setIfInBounds r (.map #[] c) }, ?_, ⟨rfl, rfl, rfl, by simp⟩, h4.putMap.mono fun _ => star_mono (fun q hq => ⟨_, _, rfl, ⟨by simp, by simp⟩, hq⟩) (fun _ h => h)⟩
  have hrun : ∀ ty, (Builtin.clear_ #[T] ty #[.map (some r)]).run P w = .ok (.tuple #[]) { w with heap := w.heap.setIfInBounds r (.map #[] c) } := fun ty => by
    simp [Builtin.clear_, Sem.run_bind, hu, run_getObj h3, run_setObj h3, Sem.run_pure]
  simp only [execOp, resolve, invoke, builtin, List.map_toArray, List.map_cons, List.map_nil, hev x _ hx, Sem.run_bind, Sem.run_pure, Result.andThen_ok, hrun]
end
end Go.Sl
