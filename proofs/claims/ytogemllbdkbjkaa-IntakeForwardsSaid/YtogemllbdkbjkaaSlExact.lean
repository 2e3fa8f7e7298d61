/- From a contract to what a row asks: what lay before lies as it did. -/
import Derived.Test.YtogemllbdkbjkaaSlShelf
set_option linter.unusedVariables false
set_option linter.unusedSimpArgs false
namespace Go.Sl
open Go Go.RowKit
/-- the whole old heap as a frame: exactly as it was -/
def exact (w : World) : HProp := fun r => ∀ b o, w.heap[b]? = some o → r b = some (true, o)
theorem Holds.exact (w : World) : Holds w (Sl.exact w) := ⟨fun b => (w.heap[b]?).map fun o => (true, o), fun b m o h => by
  simp only [Option.map_eq_some_iff, Prod.mk.injEq] at h
  obtain ⟨o', h1, _, rfl⟩ := h
  exact h1, fun b o h => by simp [h]⟩
/-- a contract that asks nothing: the call leaves all as it was -/
theorem Spec.kept {P : Program} {f : FuncId} {args : Array Value} {Post : Value → HProp} (h : Spec P f args [] Post) (w : World) :
    Calls P f args w fun e w' => ∃ v, e = .returned v ∧ (∃ r, Post v r) ∧ w'.os = w.os ∧ w'.tape = w.tape ∧ w'.output = w.output ∧ w.heap.size ≤ w'.heap.size ∧ ∀ k, k < w.heap.size → w'.heap[k]? = w.heap[k]? := by
  refine (h w (Sl.exact w) (Holds.exact w)).mono ?_
  rintro e w' ⟨v, rfl, hs, hh⟩
  obtain ⟨q, hq, q1, q2, hok, rfl, h1, h2⟩ := hh
  refine ⟨v, rfl, ⟨q1, h1⟩, hs.os, hs.tape, hs.output, hs.size, fun k hk => ?_⟩
  have e1 : w.heap[k]? = some w.heap[k] := by simp [hk]
  rw [e1]
  exact hq k true _ (Res.add_right hok (h2 k _ e1))
end Go.Sl
