/- An intake, as data. -/
import Derived.Test.YtogemllbdkbjkaaFlJoinF
set_option linter.unusedVariables false
set_option linter.unusedSimpArgs false
namespace Go.Fl
open Go Go.Sl Go.Proofs
section
variable {P : Program} {w0 : World} {n : Nat} {L : Env} {hs R : List HProp} {F : HProp} {ops : Array Oper} {Q : Exit → Act → World → Prop} {o : Ord}
theorem _root_.Go.Sl.GO.splitX {t : Nat} {x : Bool} (hc : L.get t = some (.bool x)) (h1 : x = true → GO P w0 n ((t, .bool true) :: L) hs F R ops Q o) (h2 : x = false → GO P w0 n ((t, .bool false) :: L) hs F R ops Q o) : GO P w0 n L hs F R ops Q o := by
  refine GO.splitB (p := x = true) (t := t) (by rw [hc]; simp) h1 fun h => h2 (by simpa using h)
theorem _root_.Go.Sl.GX.splitX {t : Nat} {x : Bool} (hc : L.get t = some (.bool x)) (h1 : x = true → GX P w0 n ((t, .bool true) :: L) hs F R ops Q o) (h2 : x = false → GX P w0 n ((t, .bool false) :: L) hs F R ops Q o) : GX P w0 n L hs F R ops Q o := by
  refine GX.splitB (p := x = true) (t := t) (by rw [hc]; simp) h1 fun h => h2 (by simpa using h)
end
abbrev du (l : List UInt32) : List Value := l.map vU32
abbrev ncel (b bs bj : Nat) (v : Value) : HProp := cel true b 76 [.bool true, ptr bs, ptr bj, v]
def isN (b : Nat) (s : Sp) (nx : List (Int × Value)) (ms : List Msg) (dups : List UInt32) : HProp := ex fun (x : Nat × Nat × Option Addr × Nat) =>
  star (ncel b x.1 x.2.1 (.slice x.2.2.1 dups.length x.2.2.2)) (star (isS x.1 s) (star (isJ x.2.1 nx ms) (sl true 1 (.slice x.2.2.1 dups.length x.2.2.2) dups.length (du dups))))
section
variable {w0 : World} {n : Nat} {L : Env} {hs : List HProp} {F : HProp} {k : Act → World → Prop} {b : Nat} {s : Sp} {nx : List (Int × Value)} {ms : List Msg} {dups : List UInt32}
theorem G.openN (h : ∀ bs bj a c, G w0 n L (ncel b bs bj (.slice a dups.length c) :: isS bs s :: isJ bj nx ms :: sl true 1 (.slice a dups.length c) dups.length (du dups) :: hs) F k) : G w0 n L (isN b s nx ms dups :: hs) F k :=
  G.ex fun x => G.star4 (h x.1 x.2.1 x.2.2.1 x.2.2.2)
theorem entN {bs bj c m : Nat} {a : Option Addr} {cs : List Value} {h0 h1 h2 h3 h4 : List HProp} (e1 : Ent h0 (ncel b bs bj (.slice a m c)) h1) (e2 : Ent h1 (isS bs s) h2) (e3 : Ent h2 (isJ bj nx ms) h3) (e4 : Ent h3 (sl true 1 (.slice a m c) m cs) h4) (hm : m = dups.length) (hc : cs = du dups) : Ent h0 (isN b s nx ms dups) h4 := by
  subst hm; subst hc
  exact (Ent.star e1 (Ent.star e2 (Ent.star e3 e4))).imp fun q hq => ⟨(bs, bj, a, c), hq⟩
end
def dupsP (dups : List UInt32) (r : Int) (t : UInt32) : List UInt32 := if r = 1 ∧ dups.length < 16 then dups ++ [t] else dups
theorem du_snoc (l : List UInt32) (t : UInt32) : du l ++ [vU32 t] = du (l ++ [t]) := by simp [du]
theorem du_cell (l : List UInt32) : (du l).all isCell = true := by simp [du, isCell, Value.oneCell']
def fwdB (s : Sp) (c : Ck) : Bool := decide (c.kind = 194) && less s.mark c.tsn
def fwdS (s : Sp) (c : Ck) : Sp := if fwdB s c then (s.skip c.tsn).2 else s
/-- a piece that is whole by itself, and goes on at once -/
structure Goes (nx : List (Int × Value)) (c : Ck) : Prop where
  beg : c.beg = true
  fin : c.fin = true
  frag : c.frag = 0
  next : ∃ q, nextOf nx c.stream q ∧ (c.loose = true ∨ (c.loose = false ∧ c.mid = q))
/-- what Data leaves -/
abbrev nxD (s : Sp) (nx : List (Int × Value)) (c : Ck) : List (Int × Value) := if (s.add c.tsn).1 = 0 then nxP nx c else nx
abbrev msD (s : Sp) (ms : List Msg) (c : Ck) (m : Msg) : List Msg := if (s.add c.tsn).1 = 0 then ms ++ [m] else ms
theorem dups_ap {dups : List UInt32} {t : UInt32} (h : dups.length < 16) : dupsP dups 1 t = dups ++ [t] := by unfold dupsP; rw [if_pos ⟨rfl, h⟩]
theorem dups_no {dups : List UInt32} {t : UInt32} (h : ¬ dups.length < 16) : dupsP dups 1 t = dups := by unfold dupsP; rw [if_neg (fun e => h e.2)]
end Go.Fl
