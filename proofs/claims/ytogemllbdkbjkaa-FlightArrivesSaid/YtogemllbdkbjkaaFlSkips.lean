/- What slices.SortFunc does at skips. -/
import Derived.Shelf.SlSortCmp.NoneTotal
import Derived.Test.YtogemllbdkbjkaaFlLay2
import Derived.Test.YtogemllbdkbjkaaFlSortSk
set_option linter.unusedVariables false
set_option linter.unusedSimpArgs false
namespace Go.Fl
open Go Go.Sl Go.Proofs Go.RowKit Go.Sort Go.Shelf
theorem ltSk (x y : Skip) : ltOf cmpSk x y = (skLe x y && !skLe y x) := cmpSk_lt x y
theorem swoSk : SWO (ltOf cmpSk) where
  irrefl := fun x => by rw [ltSk]; cases skLe x x <;> rfl
  trans := fun x y z h1 h2 => by
    rw [ltSk] at *
    simp only [Bool.and_eq_true, Bool.not_eq_true'] at *
    refine ⟨skLe_trans x y z h1.1 h2.1, ?_⟩
    cases h : skLe z x
    · rfl
    · have := skLe_trans y z x h2.1 h
      rw [h1.2] at this; cases this
  ntrans := fun x y z h1 h2 => by
    rw [ltSk] at *
    have t1 := skLe_total x y
    have t2 := skLe_total y z
    have e1 : skLe y x = true := by
      cases hyx : skLe y x
      · rw [hyx] at h1 t1; simp at h1 t1; rw [t1] at h1; cases h1
      · rfl
    have e2 : skLe z y = true := by
      cases hzy : skLe z y
      · rw [hzy] at h2 t2; simp at h2 t2; rw [t2] at h2; cases h2
      · rfl
    rw [skLe_trans z y x e2 e1]; simp
theorem sortedIn_pair {d : Array Skip} (h : SortedIn (ltOf cmpSk) 0 d.size d) : d.toList.Pairwise fun a b => skLe a b = true := by
  rw [List.pairwise_iff_getElem]
  intro i j hi hj hij
  have h1 := h i j (Nat.zero_le _) hij (by simpa using hj)
  rw [ltSk, getElem!_pos d i (by simpa using hi), getElem!_pos d j (by simpa using hj)] at h1
  have t := skLe_total d[i] d[j]
  simp only [Array.getElem_toList]
  cases hle : skLe d[i] d[j]
  · rw [hle] at h1 t; simp at h1 t; rw [t] at h1; cases h1
  · rfl
theorem skcLength : ∀ l : List Skip, (skc l).length = l.length * 3
  | [] => rfl
  | s :: l => by
    have ih := skcLength l
    simp only [skc, List.flatMap_cons, List.length_append, List.length_cons] at ih ⊢
    rw [ih]; simp; omega
theorem sortSkips : SortSkips := fun v l hl hn w F hh => by
  have h1 : Sl.Holds w (star (sl true 3 v l.length (skc l)) F) := hh
  have h0 := h1
  obtain ⟨q, hq, q1, q2, hok, he, hsl, hF⟩ := h1
  rcases hsl with ⟨a, rfl, hlen, hcs⟩ | ⟨b, T, off, cap, pre, post, rfl, hpre, hcs, hpost, hle, hcel⟩
  · have hl0 : l = [] := List.eq_nil_of_length_eq_zero hlen
    subst hl0
    refine (AnyF.slices_SortFunc_none { Try.sortSk with } a 0 (.func (.func 46) #[] #[]) w).mono ?_
    rintro e w' ⟨rfl, rfl⟩
    refine ⟨_, rfl, Same.refl _, ?_⟩
    simpa [sortSk] using h0
  · have h2 : Sl.Holds w (star (cel true b T (pre ++ skc l ++ post)) F) := ⟨q, hq, q1, q2, hok, he, hcel, hF⟩
    obtain ⟨fr, hfr, hb⟩ := h2.left.cel
    obtain rfl := hfr rfl
    have hlt : b < w.heap.size := (Array.getElem?_eq_some_iff.1 hb).1
    have hk3 : ∀ s : Skip, (skv s).length = 3 := fun _ => rfl
    have hfl : (flatK skv 3 l.toArray).toList = skc l := by rw [flatK_list hk3 (by decide)]; rfl
    have hsz : (flatK skv 3 l.toArray).size = l.length * 3 := by simp
    have hH : HoldsK skv 3 w b off l.toArray := fun j hj => by
      have hj' : j < (skc l).length := by rw [← hfl]; simpa using hj
      have hget : (pre ++ skc l ++ post)[off + j]? = some ((flatK skv 3 l.toArray)[j]!) := by
        rw [List.append_assoc, List.getElem?_append_right (by omega), show off + j - pre.length = j by omega, List.getElem?_append_left hj', ← hfl, getElem!_pos _ j hj]
        simp [hj]
      refine ⟨?_, ?_⟩
      · simp only [World.cell?, hb]
        simpa using hget
      · simp [World.frozen?, hb]
    have hc := AnyQ.slices_SortFunc Try.sortSk 3 Try.isAgg52 Try.sizeOf52 skv hk3 (fun x u hu => by simp [skv] at hu; rcases hu with rfl | rfl | rfl <;> rfl) cmpSk swoSk 46 #[] b off cap l.toArray w
      (enters_of Try.func46 (by kernel_rfl) rfl) (fun m os dk _ x y => closure46 x y _) hH hlt (by simp; omega)
    simp only [List.size_toArray] at hc
    refine Calls.mono hc ?_
    rintro e w' ⟨rfl, d', n, os, hperm, hsort, rfl⟩
    have hds : d'.size = l.length := by simpa using hperm.1
    have hp : d'.toList.Perm l := by
      have := hperm.2.2
      have e : List.take l.length d'.toList = d'.toList := List.take_of_length_le (by simp [hds])
      simpa [hds, e] using this
    have hd : d'.toList = sortSk l := sorted_one (hp.trans (List.mergeSort_perm l skLe).symm) ((hp.map _).nodup_iff.2 hn) (sortedIn_pair (by rw [hds]; exact hsort)) (sortSk_sorted l)
    have h3 := holds_putRow (m := n) (os := os) (F := flatK skv 3 d') hpre (by rw [hcs]; simp [hds]) h2
    refine ⟨_, rfl, ?_, ?_⟩
    · refine ⟨rfl, rfl, rfl, ?_⟩
      show w.heap.size ≤ ((w.heap.modify b _) ++ os).size
      simp
    · refine h3.mono fun r => star_mono (fun q hq => ?_) (fun _ h => h)
      rw [flatK_list hk3 (by decide), hd] at hq
      have hsl : (sortSk l).length = l.length := List.length_mergeSort l
      exact .inr ⟨b, T, off, cap, pre, post, rfl, hpre, by show (skc (sortSk l)).length = _; rw [skcLength, hsl], hpost, hle, hq⟩
end Go.Fl
