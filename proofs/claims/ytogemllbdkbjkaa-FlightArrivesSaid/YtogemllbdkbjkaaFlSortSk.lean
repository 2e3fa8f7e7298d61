/- slices.SortFunc at skips. -/
import Derived.Shelf.GgSortFunc.RowK
import Derived.Shelf.GgSortFunc.InsertionK
import Derived.Test.YtogemllbdkbjkaaSlShelf
import Derived.Test.YtogemllbdkbjkaaFlCmp
import Derived.Test.YtogemllbdkbjkaaFlA6
set_option linter.unusedVariables false
set_option linter.unusedSimpArgs false
namespace Go.Fl
open Go Go.Sl Go.Proofs Go.RowKit Go.Sort
theorem flatMap_get {α : Type} {enc : α → List Value} {k : Nat} (hk : ∀ x, (enc x).length = k) (h0 : 0 < k) : ∀ (l : List α) (t : Nat), (l.flatMap enc)[t]? = (l[t / k]?).bind fun x => (enc x)[t % k]?
  | [], t => by simp
  | x :: l, t => by
    rw [List.flatMap_cons]
    by_cases ht : t < k
    · rw [List.getElem?_append_left (by rw [hk]; exact ht), Nat.div_eq_of_lt ht, Nat.mod_eq_of_lt ht]; simp
    · have hge : k ≤ t := by omega
      rw [List.getElem?_append_right (by rw [hk]; exact hge), hk, flatMap_get hk h0 l (t - k)]
      have e1 : t / k = (t - k) / k + 1 := by rw [← Nat.sub_add_cancel hge, Nat.add_sub_cancel]; exact Nat.add_div_right _ h0
      have e2 : t % k = (t - k) % k := by rw [← Nat.sub_add_cancel hge, Nat.add_sub_cancel]; exact Nat.add_mod_right _ _
      rw [e1, e2, List.getElem?_cons_succ]
theorem flatK_list {α : Type} [Inhabited α] {enc : α → List Value} {k : Nat} (hk : ∀ x, (enc x).length = k) (h0 : 0 < k) (d : Array α) : (flatK enc k d).toList = d.toList.flatMap enc := by
  apply List.ext_getElem?
  intro t
  rw [flatMap_get hk h0]
  by_cases ht : t < d.size * k
  · have h1 : t / k < d.size := (Nat.div_lt_iff_lt_mul h0).2 ht
    have h2 : t % k < k := Nat.mod_lt _ h0
    have h3 : t % k < (enc d[t / k]).length := by rw [hk]; exact h2
    simp [flatK, ht, h1, h3]
  · have h1 : ¬ t / k < d.size := fun h => ht ((Nat.div_lt_iff_lt_mul h0).1 h)
    have h4 : d.toList[t / k]? = none := by simp; omega
    rw [h4]
    simp [flatK]; omega
theorem putCells_eq {off : Nat} {F : Array Value} {pre cs post : List Value} (hp : pre.length = off) (hc : cs.length = F.size) : putCells id off F (pre ++ cs ++ post).toArray = (pre ++ F.toList ++ post).toArray := by
  apply Array.ext'
  apply List.ext_getElem?
  intro t
  subst hp
  simp only [putCells]
  by_cases h1 : t < pre.length
  · have h2 : ¬ (pre.length ≤ t ∧ t < pre.length + F.size) := by omega
    simp [List.getElem?_append, h1, h2]
  · by_cases h3 : t - pre.length < F.size
    · have h2 : pre.length ≤ t ∧ t < pre.length + F.size := by omega
      have h4 : t - pre.length < cs.length := by omega
      have h5 : (pre ++ cs ++ post)[t]? = some cs[t - pre.length] := by
        rw [List.append_assoc, List.getElem?_append_right (by omega), List.getElem?_append_left h4]; simp [h4]
      have h6 : (pre ++ F.toList ++ post)[t]? = some F[t - pre.length] := by
        rw [List.append_assoc, List.getElem?_append_right (by omega), List.getElem?_append_left (by simpa using h3)]; simp [h3]
      rw [h6]
      simp only [Array.getElem?_toList, Array.getElem?_mapIdx, List.getElem?_toArray, h5, Option.map_some, if_pos h2, id]
      rw [getElem!_pos F _ h3]
    · have h2 : ¬ (pre.length ≤ t ∧ t < pre.length + F.size) := by omega
      have h5 : (pre ++ cs ++ post)[t]? = post[t - pre.length - F.size]? := by
        rw [List.append_assoc, List.getElem?_append_right (by omega), List.getElem?_append_right (by omega), hc]
      have h6 : (pre ++ F.toList ++ post)[t]? = post[t - pre.length - F.size]? := by
        rw [List.append_assoc, List.getElem?_append_right (by omega), List.getElem?_append_right (by simp; omega)]; simp
      rw [h6]
      simp only [Array.getElem?_toList, Array.getElem?_mapIdx, List.getElem?_toArray, h5, if_neg h2]
      simp
/-- the row is put, and blocks are laid behind: what was had of it is had -/
theorem holds_putRow {w : World} {b off m : Nat} {T : TypeId} {pre cs post : List Value} {F : Array Value} {os : Array Obj} {A : HProp} (hp : pre.length = off) (hc : cs.length = F.size)
    (h : Sl.Holds w (star (cel true b T (pre ++ cs ++ post)) A)) : Sl.Holds (grow (putRow id (Sort.ahead w m) b off F) os) (star (cel true b T (pre ++ F.toList ++ post)) A) := by
  obtain ⟨q, hq, q1, q2, hok, he, ⟨fr, hfr, hcb⟩, hF⟩ := h
  obtain rfl := hfr rfl
  have h4 : Sl.Holds w (star (pt true b (.cells (pre ++ cs ++ post).toArray T (0, 0))) A) := ⟨q, hq, q1, q2, hok, he, hcb, hF⟩
  have hb := h4.left.pt
  have hlt : b < w.heap.size := (Array.getElem?_eq_some_iff.1 hb).1
  have h5 : Sl.Holds (putRow id (Sort.ahead w m) b off F) (star (pt true b (.cells (pre ++ F.toList ++ post).toArray T (0, 0))) A) := by
    refine h4.put fun k => ?_
    show (w.heap.modify b (onCells (putCells id off F)))[k]? = _
    rw [Array.getElem?_modify]
    by_cases hk : b = k
    · subst hk; simp only [if_true, hb, Option.map_some, onCells, putCells_eq hp hc]
    · have hk' : ¬ k = b := fun e => hk e.symm
      simp [hk, hk']
  have h6 : Sl.Holds (grow (putRow id (Sort.ahead w m) b off F) os) (star (pt true b (.cells (pre ++ F.toList ++ post).toArray T (0, 0))) A) := by
    obtain ⟨r, hr, hA⟩ := h5
    refine ⟨r, fun k mm o hk => ?_, hA⟩
    have h7 := hr k mm o hk
    have h8 : k < (putRow id (Sort.ahead w m) b off F).heap.size := (Array.getElem?_eq_some_iff.1 h7).1
    show ((putRow id (Sort.ahead w _) b off F).heap ++ os)[k]? = _
    rw [Array.getElem?_append_left h8]; exact h7
  exact h6.mono fun r => star_mono (fun q hq => ⟨(0, 0), fun _ => rfl, hq⟩) (fun _ h => h)
end Go.Fl
