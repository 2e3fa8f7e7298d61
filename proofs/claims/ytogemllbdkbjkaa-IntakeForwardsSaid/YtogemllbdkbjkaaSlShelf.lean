/- From the library's contracts to mine. -/
import Derived.Test.YtogemllbdkbjkaaSlRange
import Derived.Below
import Derived.Laws.AppendOwn
set_option linter.unusedVariables false
set_option linter.unusedSimpArgs false
namespace Go.Sl
open Go Go.RowKit
/-- what lay before still lies -/
theorem Holds.below {w w' : World} {A : HProp} (h : Holds w A) (hb : Below w.heap.size w w') : Holds w' A := by
  obtain ⟨r, hr, hA⟩ := h
  refine ⟨r, fun b m o hbo => ?_, hA⟩
  have h1 := hr b m o hbo
  have hlt : b < w.heap.size := (Array.getElem?_eq_some_iff.1 h1).1
  rw [hb.block b hlt]; exact h1
theorem Same.below {w w' : World} (hb : Below w.heap.size w w') : Same w w' := ⟨hb.os, hb.tape, hb.output, hb.size⟩
/-- .. and a block that is new is had alone -/
theorem Holds.addPt {w w' : World} {A : HProp} {b : Nat} {o : Obj} (h : Holds w A) (hb : Below w.heap.size w w') (hge : w.heap.size ≤ b) (ho : w'.heap[b]? = some o) : Holds w' (star (Sl.pt true b o) A) := by
  obtain ⟨r, hr, hA⟩ := h
  have h2 : ∀ k y, r k = some y → k < w.heap.size := fun k y hk => (Array.getElem?_eq_some_iff.1 (hr k y.1 y.2 hk)).1
  refine ⟨Res.add (fun k => if k = b then some (true, o) else none) r, ?_, _, r, ?_, rfl, by simp [Sl.pt], hA⟩
  · intro k m x hk
    rcases Res.add_some hk with h | ⟨_, h⟩
    · by_cases hkb : k = b
      · subst hkb; simp at h; rw [ho, h.2]
      · simp [hkb] at h
    · have hlt := h2 k _ h
      rw [hb.block k hlt]; exact hr _ _ _ h
  · intro k x y hx hy
    by_cases hkb : k = b
    · subst hkb; have := h2 _ _ hy; omega
    · simp [hkb] at hx
/-- a new row of the library's is a slice of mine -/
theorem Holds.addRow {w w' : World} {A : HProp} {e size : Nat} {v : Value} {n : Nat} {xs : List Value} (h : Holds w A) (hb : Below w.heap.size w w') (hrow : w'.ownsRow w.heap.size e size v n xs) : Holds w' (star (Sl.sl true size v n xs) A) := by
  obtain ⟨hlen, hv⟩ := hrow
  rcases hv with ⟨rfl, rfl⟩ | ⟨g, cap, cur, rfl, hge, hg, hle, _, hsz, htk⟩
  · have hx : xs = [] := List.eq_nil_of_length_eq_zero (by simpa using hlen)
    subst hx
    exact (h.below hb).mono fun r hr => ⟨fun _ => none, r, (fun _ _ _ h => by cases h), (by funext b; rfl), .inl ⟨none, rfl, rfl, rfl⟩, hr⟩
  · refine (h.addPt hb hge hg).mono fun r => star_mono (fun q hq => ?_) (fun _ h => h)
    have hcut : cur.toList.take (n * size) ++ cur.toList.drop (n * size) = cur.toList := List.take_append_drop _ _
    refine .inr ⟨g, e, 0, cap, [], cur.toList.drop (n * size), rfl, rfl, hlen, ?_, hle, (0, 0), fun _ => rfl, ?_⟩
    · rw [List.length_drop, Array.length_toList, hsz, Nat.sub_mul]; exact Nat.le_refl _
    · rw [List.nil_append, ← htk, hcut]; exact hq
end Go.Sl
