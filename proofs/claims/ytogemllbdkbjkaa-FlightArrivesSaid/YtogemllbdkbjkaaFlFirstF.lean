/- What must be answered ahead of everything else, as data. -/
import Derived.Test.YtogemllbdkbjkaaFlAckF
set_option linter.unusedVariables false
set_option linter.unusedSimpArgs false
namespace Go.Fl
open Go Go.Sl
def F0 : Fm := ⟨5 - 1, [], []⟩
def F1 : Fm := F0.send 1 0 0 { kind := 64 } [97, 98] 10
def F2 : Fm := F1.send 1 0 0 { kind := 64 } [99] 10
def F3 : Fm := F2.send 1 0 0 { kind := 64 } [100] 10
def F4 : Fm := (F3.ack 3 5 [(2, 2)] 14).2
theorem ack1 : F3.ack 3 5 [(2, 2)] 14 = (⟨3, true, false, 4, false⟩, F4) := by
  have h : (F3.ack 3 5 [(2, 2)] 14).1 = ⟨3, true, false, 4, false⟩ := by decide
  exact Prod.ext h rfl
theorem ack2 : F4.ack 3 8 [] 14 = (⟨0, false, false, -1, true⟩, F4) := by
  have h : F4.bad 3 8 [] = true := by decide
  simp only [Fm.ack, h, if_true]
theorem ok0 : F0.ok := ⟨by decide, by decide, by decide, by decide, by decide⟩
theorem ok1 : F1.ok := ⟨by decide, by decide, by decide, by decide, by decide⟩
theorem ok2 : F2.ok := ⟨by decide, by decide, by decide, by decide, by decide⟩
theorem ok3 : F3.ok := ⟨by decide, by decide, by decide, by decide, by decide⟩
theorem ok4 : F4.ok := ⟨by decide, by decide, by decide, by decide, by decide⟩
theorem first1 : F0.next = 5 := by decide
theorem first2 : F4.bytes = 1 := by decide
theorem first3 : F4.left = 1 := by decide
theorem first4 : F4.next = 8 := by decide
theorem first5 : F4.mark = 5 := by decide
theorem Mono.isF {b : Nat} {f : Fm} : Mono (isF b f) := Mono.ex fun _ => Mono.star Mono.cel
end Go.Fl
