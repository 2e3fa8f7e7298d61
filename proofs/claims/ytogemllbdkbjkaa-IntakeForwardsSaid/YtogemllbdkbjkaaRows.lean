/-
  No cell of these rows narrows 'for every input' (looked for: loops, veiled, ifaces, maps, wideKeys, modest, calm, conditions, laid).
  DERIVED. THE GIVEN ROWS OF THIS SEAT. 4 by the template 'for every input the law returns true; each argument reads behind the call as it read before'; 0 by the template 'total and deterministic' (their statements: YtogemllbdkbjkaaTotals.lean).
  GIVEN WITH THE SEED: the statements are not yours to turn. If you find one false, say at which input.
  Laid BY PROGRAM, IN A SANDBOX (cutbox-rows.mjs): the forced cells as the released guide's own fill.sh prints them over the translation 7a7d4aaeaee5ceab… (all of the seat's roots in one cut). By AI agents, Wed Nov 11 2026. No macro, syntax, notation, axiom, sorry.
-/
import Derived.Test.YtogemllbdkbjkaaChecked
import GoSem.Claim
import GoSem.ClaimJoined
import GoSem.ClaimMapViews
import Derived.JoinedTies
import Derived.KernelRfl
namespace Go.Proofs.Ytogemllbdkbjkaa
/- THE CELL 'sum', in the pinned program and in every row, IS THE sha256 OF THE DUMP (.gsa) THAT YtogemllbdkbjkaaProg.lean LOADS. Nothing in Lean hashes anything: it is a label: what it is worth is what the hold of that sum in a sandbox is worth. -/
noncomputable def Try.pinned : Pinned := { name := "ytogemllbdkbjkaa", sum := "7a7d4aaeaee5ceab0ce253fd6bac387bbae91082292bb6330dce10029634f12f", checked := Try.checked }
namespace Rows
def none {H : Type} : Left H := { results := [], args := [] }

/-- 'flumelaw14.IntakeForwards': WHATEVER THE INPUT: true; the input reads as it did. -/
def intakeForwardsSpec : ChangeSpec := { name := "intakeForwards", fn := fun _ => fun
  | [d1, d2, d3] => { results := [.lit (.bool true)], args := [d1, d2, d3] }
  | _ => none }
def intakeForwardsRow : OpenClaim := { program := "ytogemllbdkbjkaa", sum := "7a7d4aaeaee5ceab0ce253fd6bac387bbae91082292bb6330dce10029634f12f", func := "flume/flumelaw14.IntakeForwards", spec := "intakeForwards", inPlace := ["slices.overlaps[flume/span.row]"], unfollowed := true, recurses := true, plainKeys := false, apart := false }
def IntakeForwardsSaid : Prop := intakeForwardsRow.holds Try.pinned (OpenSpec.ofChange intakeForwardsSpec)

/-- ITS FALSE NEIGHBOUR: 'it returns false'. Refute it at one input. -/
def intakeForwardsWrong : ChangeSpec := { name := "intakeForwards", fn := fun _ => fun
  | [d1, d2, d3] => { results := [.lit (.bool false)], args := [d1, d2, d3] }
  | _ => none }
def IntakeForwardsWrongFalsely : Prop := intakeForwardsRow.holds Try.pinned (OpenSpec.ofChange intakeForwardsWrong)

/-- 'flumelaw15.FlightPoints': WHATEVER THE INPUT: true; the input reads as it did. -/
def flightPointsSpec : ChangeSpec := { name := "flightPoints", fn := fun _ => fun
  | [d] => { results := [.lit (.bool true)], args := [d] }
  | _ => none }
def flightPointsRow : OpenClaim := { program := "ytogemllbdkbjkaa", sum := "7a7d4aaeaee5ceab0ce253fd6bac387bbae91082292bb6330dce10029634f12f", func := "flume/flumelaw15.FlightPoints", spec := "flightPoints", unfollowed := true, recurses := true, plainKeys := false, apart := false }
def FlightPointsSaid : Prop := flightPointsRow.holds Try.pinned (OpenSpec.ofChange flightPointsSpec)

/-- ITS FALSE NEIGHBOUR: 'it returns false'. Refute it at one input. -/
def flightPointsWrong : ChangeSpec := { name := "flightPoints", fn := fun _ => fun
  | [d] => { results := [.lit (.bool false)], args := [d] }
  | _ => none }
def FlightPointsWrongFalsely : Prop := flightPointsRow.holds Try.pinned (OpenSpec.ofChange flightPointsWrong)

/-- 'flumelaw15.FlightArrives': WHATEVER THE INPUT: true; the input reads as it did. -/
def flightArrivesSpec : ChangeSpec := { name := "flightArrives", fn := fun _ => fun
  | [d1, d2, d3] => { results := [.lit (.bool true)], args := [d1, d2, d3] }
  | _ => none }
def flightArrivesRow : OpenClaim := { program := "ytogemllbdkbjkaa", sum := "7a7d4aaeaee5ceab0ce253fd6bac387bbae91082292bb6330dce10029634f12f", func := "flume/flumelaw15.FlightArrives", spec := "flightArrives", unfollowed := true, recurses := true, plainKeys := false, apart := false }
def FlightArrivesSaid : Prop := flightArrivesRow.holds Try.pinned (OpenSpec.ofChange flightArrivesSpec)

/-- ITS FALSE NEIGHBOUR: 'it returns false'. Refute it at one input. -/
def flightArrivesWrong : ChangeSpec := { name := "flightArrives", fn := fun _ => fun
  | [d1, d2, d3] => { results := [.lit (.bool false)], args := [d1, d2, d3] }
  | _ => none }
def FlightArrivesWrongFalsely : Prop := flightArrivesRow.holds Try.pinned (OpenSpec.ofChange flightArrivesWrong)

/-- 'flumelaw15.FlightTimes': WHATEVER THE INPUT: true; the input reads as it did. -/
def flightTimesSpec : ChangeSpec := { name := "flightTimes", fn := fun _ => fun
  | [d1, d2, d3] => { results := [.lit (.bool true)], args := [d1, d2, d3] }
  | _ => none }
def flightTimesRow : OpenClaim := { program := "ytogemllbdkbjkaa", sum := "7a7d4aaeaee5ceab0ce253fd6bac387bbae91082292bb6330dce10029634f12f", func := "flume/flumelaw15.FlightTimes", spec := "flightTimes", unfollowed := true, recurses := true, plainKeys := false, apart := false }
def FlightTimesSaid : Prop := flightTimesRow.holds Try.pinned (OpenSpec.ofChange flightTimesSpec)

/-- ITS FALSE NEIGHBOUR: 'it returns false'. Refute it at one input. -/
def flightTimesWrong : ChangeSpec := { name := "flightTimes", fn := fun _ => fun
  | [d1, d2, d3] => { results := [.lit (.bool false)], args := [d1, d2, d3] }
  | _ => none }
def FlightTimesWrongFalsely : Prop := flightTimesRow.holds Try.pinned (OpenSpec.ofChange flightTimesWrong)

/- THE SECOND FORM. 'bulk': how many values and letters a reading holds, each counted each time it is reached (what is shared counts as often as it is met; a slice's spare places count too). A statement '..UptoSaid' is the law's where the arguments, and the package variables that the reading takes, are together of bulk at most 1048576: NARROWER than '..Said'. Prove '..Said' where nothing that the law and all that it calls make is longer than what came in: it says more and counts as full. Else prove '..UptoSaid'. A law counts once. -/
mutual
def uptoBulk {H : Type} : DataW H → Nat
  | .lit (.string bytes) => bytes.length + 1
  | .lit _ => 1
  | .nil => 1
  | .ptr d => uptoBulk d + 1
  | .slice elems spare => uptoBulkAll elems + uptoBulkAll spare + 1
  | .agg parts => uptoBulkAll parts + 1
  | .iface _ d => uptoBulk d + 1
  | .map entries => uptoBulkEntries entries + 1
  | .held _ => 1
def uptoBulkAll {H : Type} : List (DataW H) → Nat
  | [] => 0
  | d :: r => uptoBulk d + uptoBulkAll r
def uptoBulkEntries {H : Type} : List (Lit × DataW H) → Nat
  | [] => 0
  | x :: r => uptoBulkEntry x + uptoBulkEntries r
def uptoBulkEntry {H : Type} : Lit × DataW H → Nat
  | (.string bytes, d) => bytes.length + uptoBulk d + 1
  | (_, d) => uptoBulk d + 1
 end
def uptoSmall : (H : Type) → List (DataW H) → Bool := fun _ ds => decide (uptoBulkAll ds ≤ 1048576)
def OpenSpec.upto (s : _root_.Go.ChangeSpec) : _root_.Go.OpenSpec := { _root_.Go.OpenSpec.ofChange s with cond := some uptoSmall }

/-- 'flumelaw14.IntakeForwards', WHERE WHAT IT READS IS OF BULK AT MOST 1048576: true; the input reads as it did. -/
def intakeForwardsUptoRow : OpenClaim := { program := "ytogemllbdkbjkaa", sum := "7a7d4aaeaee5ceab0ce253fd6bac387bbae91082292bb6330dce10029634f12f", func := "flume/flumelaw14.IntakeForwards", spec := "intakeForwards", inPlace := ["slices.overlaps[flume/span.row]"], unfollowed := true, recurses := true, plainKeys := false, apart := false, narrowed := true }
def IntakeForwardsUptoSaid : Prop := intakeForwardsUptoRow.holds Try.pinned (OpenSpec.upto intakeForwardsSpec)

/-- 'flumelaw15.FlightPoints', WHERE WHAT IT READS IS OF BULK AT MOST 1048576: true; the input reads as it did. -/
def flightPointsUptoRow : OpenClaim := { program := "ytogemllbdkbjkaa", sum := "7a7d4aaeaee5ceab0ce253fd6bac387bbae91082292bb6330dce10029634f12f", func := "flume/flumelaw15.FlightPoints", spec := "flightPoints", unfollowed := true, recurses := true, plainKeys := false, apart := false, narrowed := true }
def FlightPointsUptoSaid : Prop := flightPointsUptoRow.holds Try.pinned (OpenSpec.upto flightPointsSpec)

/-- 'flumelaw15.FlightArrives', WHERE WHAT IT READS IS OF BULK AT MOST 1048576: true; the input reads as it did. -/
def flightArrivesUptoRow : OpenClaim := { program := "ytogemllbdkbjkaa", sum := "7a7d4aaeaee5ceab0ce253fd6bac387bbae91082292bb6330dce10029634f12f", func := "flume/flumelaw15.FlightArrives", spec := "flightArrives", unfollowed := true, recurses := true, plainKeys := false, apart := false, narrowed := true }
def FlightArrivesUptoSaid : Prop := flightArrivesUptoRow.holds Try.pinned (OpenSpec.upto flightArrivesSpec)

/-- 'flumelaw15.FlightTimes', WHERE WHAT IT READS IS OF BULK AT MOST 1048576: true; the input reads as it did. -/
def flightTimesUptoRow : OpenClaim := { program := "ytogemllbdkbjkaa", sum := "7a7d4aaeaee5ceab0ce253fd6bac387bbae91082292bb6330dce10029634f12f", func := "flume/flumelaw15.FlightTimes", spec := "flightTimes", unfollowed := true, recurses := true, plainKeys := false, apart := false, narrowed := true }
def FlightTimesUptoSaid : Prop := flightTimesUptoRow.holds Try.pinned (OpenSpec.upto flightTimesSpec)

end Rows
end Go.Proofs.Ytogemllbdkbjkaa
