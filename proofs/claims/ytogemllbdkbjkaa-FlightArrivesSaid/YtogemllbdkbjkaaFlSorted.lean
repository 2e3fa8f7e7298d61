/- slices.Sorted of maps.Keys, at the keys of a map of mine. -/
import Derived.Test.YtogemllbdkbjkaaSlShelf
import Derived.Test.YtogemllbdkbjkaaFlLay1
import Derived.Test.YtogemllbdkbjkaaFlA5
set_option linter.unusedVariables false
set_option linter.unusedSimpArgs false
namespace Go.Fl
open Go Go.Sl Go.Proofs Go.RowKit Go.Maps Go.Sort Go.Shelf
theorem sorted_oneI : ∀ {l m : List Int}, l.Perm m → l.Pairwise (fun a b => decide (a ≤ b) = true) → m.Pairwise (fun a b => decide (a ≤ b) = true) → l = m
  | [], m, hp, _, _ => by have := hp.length_eq; simp at this; exact (List.eq_nil_of_length_eq_zero this.symm).symm
  | a :: l, [], hp, _, _ => by have := hp.length_eq; simp at this
  | a :: l, b :: m, hp, h1, h2 => by
    have hab : a = b := by
      have ha : a ∈ b :: m := hp.subset (by simp)
      have hb : b ∈ a :: l := hp.symm.subset (by simp)
      rcases List.mem_cons.1 ha with h | h
      · exact h
      · rcases List.mem_cons.1 hb with h' | h'
        · exact h'.symm
        · have e1 := of_decide_eq_true ((List.pairwise_cons.1 h1).1 b h')
          have e2 := of_decide_eq_true ((List.pairwise_cons.1 h2).1 a h)
          omega
    subst hab
    rw [sorted_oneI ((List.perm_cons a).1 hp) (List.pairwise_cons.1 h1).2 (List.pairwise_cons.1 h2).2]
theorem sortI_perm {l m : List Int} (h : l.Perm m) : sortI l = sortI m := by
  have t : ∀ a b c : Int, decide (a ≤ b) = true → decide (b ≤ c) = true → decide (a ≤ c) = true := fun a b c h1 h2 => by simp at *; omega
  have u : ∀ a b : Int, (decide (a ≤ b) || decide (b ≤ a)) = true := fun a b => by simp; omega
  exact sorted_oneI ((List.mergeSort_perm l _).trans (h.trans (List.mergeSort_perm m _).symm)) (List.pairwise_mergeSort t u l) (List.pairwise_mergeSort t u m)
theorem sortsA (m : Nat) : AnyZI.SortsIn Try.prog Try.sortedA_ren Fence.wide m :=
  ⟨fun blk off cap ss W hH hblk hsz => callsIn_wide.2 (AnyM.slices_Sort_int Try.sortA blk off cap ss W hH hblk hsz),
   fun p cap W => callsIn_wide.2 (AnyM.slices_Sort_int_none Try.sortA p cap W)⟩
abbrev rdU (_ : Value) : Option (DataW Unit × List MemPlace) := some (.nil, [])
theorem keyOf3 {k : Int} (hk : Rng k) : keyOf Try.prog 3 (.int .i64 k) = some (.int .i64 k) := by
  have hw : (Lit.int .i64 k).wf = true := by
    simp only [Lit.wf, Bool.and_eq_true, decide_eq_true_eq]
    exact hk
  simp [keyOf, mapKey, Try.underlying3, hw]
theorem sortedKeys : SortedKeys := fun r b l hl hn hr w F hh => by
  have h1 : Holds w (star (cel true b 84 [.map (some r)]) (star (mapA encI r (goneC l)) F)) := hh
  obtain ⟨fr, hfr, hb⟩ := h1.left.cel
  obtain rfl := hfr rfl
  obtain ⟨es, clock, hp, hok, hm, h2⟩ := h1.right.mapA
  have hkeys : es.toList.map (·.key) = l.map encI := by
    have := congrArg (List.map Prod.fst) hp
    simpa [pairs, Function.comp_def] using this
  have hlen : es.size = l.length := by have := congrArg List.length hkeys; simpa using this
  have hmem : ∀ x ∈ es.toList, ∃ k ∈ l, x.key = encI k := fun x hx => by
    have : x.key ∈ l.map encI := by rw [← hkeys]; exact List.mem_map.2 ⟨x, hx, rfl⟩
    obtain ⟨k, hk, he⟩ := List.mem_map.1 this
    exact ⟨k, hk, he.symm⟩
  have hrd : ∀ x ∈ es.toList, ∀ k, x.key = encI k → k ∈ l → WideElems.rd Try.prog 3 rdU x = some (Lit.int .i64 k, DataW.nil) := fun x _ k he hk => by
    simp [WideElems.rd, he, keyOf3 (hr k hk)]
  have hfit : WideElems.Fit Try.prog 3 rdU es clock := ⟨by rw [hlen]; exact Nat.le_trans hl (by decide), ⟨fun x hx => hok.1 x (by simpa using hx), hok.2, by
    rw [hkeys]; exact List.Pairwise.map encI (fun a b h e => h (by simpa [encI] using e)) hn⟩, fun x hx => by
    obtain ⟨k, hk, he⟩ := hmem x hx
    exact ⟨_, hrd x hx k he hk⟩⟩
  have hrg : ∀ (xs : List MapEntry) (ks : List Int), (∀ x ∈ xs, x ∈ es.toList) → (∀ k ∈ ks, k ∈ l) → xs.map (·.key) = ks.map encI → (xs.map (WideElems.rg Try.prog 3 rdU)).map (fun p => intOf p.1) = ks := fun xs => by
    induction xs with
    | nil => intro ks _ _ h; cases ks with
      | nil => rfl
      | cons => simp at h
    | cons x xs ih => intro ks hx hk h; cases ks with
      | nil => simp at h
      | cons k ks =>
        simp only [List.map_cons, List.cons.injEq] at h ⊢
        refine ⟨?_, ih ks (fun y hy => hx y (by simp [hy])) (fun j hj => hk j (by simp [hj])) h.2⟩
        rw [WideElems.rg_of (hrd x (hx x (by simp)) k h.1 (hk k (by simp)))]
        rfl
  obtain ⟨D0, hD⟩ : ∃ D0 : DataW Unit, D0 = .map ((es.toList.map (WideElems.rg Try.prog 3 rdU)).foldr DataW.insert []) := ⟨_, rfl⟩
  have hown : w.ownsMap Try.prog 3 rdU r es.size D0 := ⟨es, clock, hm, hfit, Nat.le_refl _, hD⟩
  have hik : (intKeys D0).Perm l := by
    rw [hD]
    have := (WideShapes.sorted_perm (es.toList.map (WideElems.rg Try.prog 3 rdU))).map (fun p => intOf p.1)
    rw [hrg es.toList l (fun _ h => h) (fun _ h => h) hkeys] at this
    exact this
  have hms : Maps.size D0 = l.length := by
    rw [hD, Maps.size_eq, (WideShapes.sorted_perm _).length_eq]; simp [hlen]
  have hbl : b < w.heap.size := (Array.getElem?_eq_some_iff.1 hb).1
  have hseq : SeqGives Fence.wide 2 Try.prog 76 #[.pointer (some ⟨b, 0, none⟩)] encZ (fun ss => ss.Perm (intKeys D0)) (Maps.size D0) w :=
    AnyZI.keys_gives (ρ := Try.keysA_ren) { Try.keysA with } Fence.wide _ trivial rfl (by omega) b r es.size D0 w hbl (by simp [World.cell?, hb]) hown
  have cS := AnyZI.sorted_in Try.sortedA Fence.wide 5 trivial trivial trivial trivial rfl (by omega) (sortsA _) (enters_of Try.func75 (by kernel_rfl) rfl) 76 #[.pointer (some ⟨b, 0, none⟩)] trivial (enters_of Try.func76 (by kernel_rfl) rfl) _ _ (by rw [hms]; exact Nat.le_trans hl (by decide)) (by rw [hms]; omega) w hseq
  change CallsIn _ _ Try.prog 42 _ _ _ at cS
  refine (callsIn_wide.1 cS).mono ?_
  rintro e w' ⟨v, ss, rfl, hS, hrow, _, hbel⟩
  refine ⟨v, rfl, Same.below hbel, ?_⟩
  have hss : ss.Perm l := hS.trans hik
  have h3 := h1.right.addRow hbel hrow
  refine h3.mono fun q hq => star_assoc' (star_mono (fun q hq => ?_) (fun _ h => h) hq)
  rw [hss.length_eq] at hq
  have e : (ss.mergeSort fun x y => decide (x ≤ y)) = sortI l := sortI_perm hss
  rw [e] at hq
  exact hq
end Go.Fl
