/- The values of the program as data, and how they lie in memory. -/
import Derived.Test.YtogemllbdkbjkaaFlSerial
import Derived.Test.YtogemllbdkbjkaaSlEq
set_option linter.unusedVariables false
set_option linter.unusedSimpArgs false
namespace Go.Fl
open Go Go.Sl
/-- a chunk, but for its lists: the fields that are numbers and bools -/
structure Ck where
  kind : UInt8 := 0
  beg : Bool := false
  fin : Bool := false
  loose : Bool := false
  bare : Bool := false
  tsn : UInt32 := 0
  stream : UInt16 := 0
  mid : UInt32 := 0
  ppid : UInt32 := 0
  frag : UInt32 := 0
  tag : UInt32 := 0
  window : UInt32 := 0
  out : UInt16 := 0
  inn : UInt16 := 0
  deriving DecidableEq, Inhabited
/-- the cells of a chunk: its numbers, then its five lists -/
abbrev ckv (c : Ck) (gaps dups skips params body : Value) : List Value :=
  [vU8 c.kind, .bool c.beg, .bool c.fin, .bool c.loose, .bool c.bare, vU32 c.tsn, vU16 c.stream, vU32 c.mid, vU32 c.ppid, vU32 c.frag, vU32 c.tag, vU32 c.window, vU16 c.out, vU16 c.inn, gaps, dups, skips, params, body]
abbrev nilS : Value := .slice none 0 0
/-- bytes as cells -/
def byc (l : List UInt8) : List Value := l.map vU8
theorem byc_length (l : List UInt8) : (byc l).length = l.length := by simp [byc]
theorem byc_cell (l : List UInt8) : (byc l).all isCell = true := by simp [byc, isCell, Value.oneCell']
/-- shared bytes -/
abbrev bys (v : Value) (l : List UInt8) : HProp := sl false 1 v l.length (byc l)
abbrev byo (v : Value) (l : List UInt8) : HProp := sl true 1 v l.length (byc l)
/-- pairs of 16 bits -/
def gpc (l : List (UInt16 × UInt16)) : List Value := l.flatMap fun g => [vU16 g.1, vU16 g.2]
theorem gpc_length (l : List (UInt16 × UInt16)) : (gpc l).length = l.length * 2 := by
  induction l with
  | nil => rfl
  | cons g l ih => simp [gpc] at ih ⊢; omega
theorem gpc_cell (l : List (UInt16 × UInt16)) : (gpc l).all isCell = true := by simp [gpc, isCell, Value.oneCell']
def u32c (l : List UInt32) : List Value := l.map vU32
theorem u32c_cell (l : List UInt32) : (u32c l).all isCell = true := by simp [u32c, isCell, Value.oneCell']
def u16c (l : List UInt16) : List Value := l.map vU16
theorem u16c_cell (l : List UInt16) : (u16c l).all isCell = true := by simp [u16c, isCell, Value.oneCell']
/-- a skip -/
structure Skip where
  stream : UInt16
  loose : Bool
  mid : UInt32
  deriving DecidableEq, Inhabited
abbrev skv (s : Skip) : List Value := [vU16 s.stream, .bool s.loose, vU32 s.mid]
def skc (l : List Skip) : List Value := l.flatMap skv
theorem skc_cell (l : List Skip) : (skc l).all isCell = true := by simp [skc, skv, isCell, Value.oneCell']
/-- addresses as cells -/
def ptc (l : List Nat) : List Value := l.map fun b => ptr b
theorem ptc_cell (l : List Nat) : (ptc l).all isCell = true := by simp [ptc, isCell, Value.oneCell']
theorem room_of (n bytes : Nat) (hb : bytes ≤ 4096) (h : n ≤ 30000000000) : Room (n * bytes) := by
  unfold Room
  have := Nat.mul_le_mul h hb
  omega
end Go.Fl
