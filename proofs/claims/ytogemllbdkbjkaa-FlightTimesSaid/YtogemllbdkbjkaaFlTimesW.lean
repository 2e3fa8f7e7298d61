/- FlightTimes, called. -/
import Derived.Test.YtogemllbdkbjkaaSlExact
import Derived.Test.YtogemllbdkbjkaaFlB2
import Derived.Test.YtogemllbdkbjkaaFlSorted
import Derived.Test.YtogemllbdkbjkaaFlSkips
set_option linter.unusedVariables false
set_option linter.unusedSimpArgs false
namespace Go.Fl
open Go Go.Sl Go.Proofs
theorem times_walk (n : UInt32) (q o : Int) (ho : Rng o) (w : World) : Calls Try.prog 6 #[.int .u32 n.toNat, .int .i64 q, .int .i64 o] w fun e w' =>
    e = .returned (.bool true) ∧ w'.os = w.os ∧ w'.tape = w.tape ∧ w'.output = w.output ∧ w.heap.size ≤ w'.heap.size ∧ ∀ k, k < w.heap.size → w'.heap[k]? = w.heap[k]? := by
  refine ((times_spec sortedKeys sortSkips n q o ho).kept w).mono ?_
  rintro e w' ⟨v, rfl, ⟨r, hv⟩, h⟩
  exact ⟨by rw [show v = .bool true from hv], h⟩
#print axioms times_walk
end Go.Fl
