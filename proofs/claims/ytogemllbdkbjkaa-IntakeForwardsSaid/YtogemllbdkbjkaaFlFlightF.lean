/- What the functions on flights compute. -/
import Derived.Test.YtogemllbdkbjkaaFlFlightM
import Derived.Test.YtogemllbdkbjkaaFlSerial
set_option linter.unusedVariables false
set_option linter.unusedSimpArgs false
namespace Go.Fl
open Go Go.Sl
abbrev Fm.next (f : Fm) : UInt32 := f.mark + UInt32.ofNat ((f.ps.length : Int) % 4294967296).toNat + 1
/-- an int of 64 bits -/
abbrev Rng (m : Int) : Prop := -9223372036854775808 ≤ m ∧ m ≤ 9223372036854775807
/-- the numbers that are counted stay small -/
structure Fm.ok (f : Fm) : Prop where
  len : f.ps.length < 1000000000
  body : ∀ p ∈ f.ps, p.body.length ≤ 70000
  miss : ∀ p ∈ f.ps, 0 ≤ p.missed ∧ p.missed ≤ 3
  gone : f.gone.Nodup
  rng : (∀ p ∈ f.ps, Rng p.m) ∧ ∀ k ∈ f.gone, Rng k
def lateP (p : Piece) : Piece := if p.how = 0 then { p with how := 1 } else p
abbrev Fm.late (f : Fm) : Fm := { f with ps := f.ps.map lateP }
/-- how many of the first k are so -/
def cntP (q : Piece → Bool) (k : Nat) (ps : List Piece) : Int := (((ps.take k).filter q).length : Int)
theorem cntP_zero (q : Piece → Bool) (ps : List Piece) : cntP q 0 ps = 0 := by simp [cntP]
theorem cntP_succ {q : Piece → Bool} {k : Nat} {ps : List Piece} {p : Piece} (h : ps[k]? = some p) : cntP q (k + 1) ps = cntP q k ps + if q p then 1 else 0 := by
  simp only [cntP, List.take_add_one, h, Option.toList_some, List.filter_append, List.length_append]
  cases hq : q p <;> simp [hq]
theorem cntP_le (q : Piece → Bool) (k : Nat) (ps : List Piece) : 0 ≤ cntP q k ps ∧ cntP q k ps ≤ ps.length := by
  unfold cntP
  have h1 := List.length_filter_le q (ps.take k)
  have h2 : (ps.take k).length ≤ ps.length := by simp; omega
  omega
theorem cntP_all {q : Piece → Bool} {ps : List Piece} : cntP q ps.length ps = ((ps.filter q).length : Int) := by simp [cntP]
def isAway (p : Piece) : Bool := decide (p.how = 0)
def Fm.lateN (f : Fm) : Int := ((f.ps.filter isAway).length : Int)
def Fm.left (f : Fm) : Int := ((f.ps.filter Piece.isOpen).length : Int)
/-- the bytes that are away, of the first k -/
def bytK (k : Nat) (ps : List Piece) : Int := ((((ps.take k).filter isAway).map fun p => p.body.length).sum : Nat)
theorem bytK_zero (ps : List Piece) : bytK 0 ps = 0 := by simp [bytK]
theorem bytK_succ {k : Nat} {ps : List Piece} {p : Piece} (h : ps[k]? = some p) : bytK (k + 1) ps = bytK k ps + if isAway p then (p.body.length : Int) else 0 := by
  simp only [bytK, List.take_add_one, h, Option.toList_some, List.filter_append, List.map_append, List.sum_append]
  cases hq : isAway p <;> simp [hq]
theorem bytK_le {f : Fm} (hf : f.ok) : ∀ k, k ≤ f.ps.length → 0 ≤ bytK k f.ps ∧ bytK k f.ps ≤ 70000 * k
  | 0, _ => by simp [bytK_zero]
  | k + 1, hk => by
    obtain ⟨p, hp⟩ : ∃ p, f.ps[k]? = some p := ⟨f.ps[k]'(by omega), by simp⟩
    have ih := bytK_le hf k (by omega)
    have hb := hf.body p (List.mem_of_getElem? hp)
    rw [bytK_succ hp]
    split <;> omega
def Fm.bytes (f : Fm) : Int := (((f.ps.filter isAway).map fun p => p.body.length).sum : Nat)
theorem bytK_all {ps : List Piece} : bytK ps.length ps = (((ps.filter isAway).map fun p => p.body.length).sum : Nat) := by simp [bytK]
/-- a message is given up -/
def giveP (m : Int) (p : Piece) : Piece := if p.m = m ∧ p.isOpen then { p with how := 3 } else p
def insI (l : List Int) (k : Int) : List Int := if k ∈ l then l else l ++ [k]
abbrev Fm.give (f : Fm) (m : Int) : Fm := { f with ps := f.ps.map (giveP m), gone := insI f.gone m }
theorem aset_gone : ∀ (l : List Int) (m : Int), aset (goneC l) m (.bool true) = goneC (insI l m)
  | [], m => rfl
  | j :: l, m => by
    have ih := aset_gone l m
    simp only [goneC, List.map_cons, aset] at ih ⊢
    by_cases h : j = m
    · subst h; simp [insI]
    · rw [if_neg h, ih]
      have h' : ¬ m = j := fun e => h e.symm
      by_cases hm : m ∈ l
      · simp [insI, hm]
      · simp [insI, hm, h']
/-- the value of a chunk whose lists are nil, but for its body -/
abbrev ckV (c : Ck) (v : Value) : Value := .agg (ckv c nilS nilS nilS nilS v).toArray
abbrev Ck.tsnAt (c : Ck) (t : UInt32) : Ck := { c with tsn := t }
abbrev Fm.newP (f : Fm) (m lk : Int) (ln : UInt32) (c : Ck) (body : List UInt8) (now : UInt32) : Piece := ⟨c.tsnAt f.next, body, m, lk, ln, 1, now, 0, 0⟩
abbrev Fm.send (f : Fm) (m lk : Int) (ln : UInt32) (c : Ck) (body : List UInt8) (now : UInt32) : Fm := { f with ps := f.ps ++ [f.newP m lk ln c body now] }
theorem ptc_snoc (bs : List Nat) (b : Nat) : ptc bs ++ [ptr b] = ptc (bs ++ [b]) := by simp [ptc]
theorem isPs_snoc {bs : List Nat} {ps : List Piece} {b : Nat} {p : Piece} (hl : bs.length = ps.length) : ∀ r, star (isP b p) (isPs bs ps) r → isPs (bs ++ [b]) (ps ++ [p]) r := by
  induction bs generalizing ps with
  | nil => intro r h; cases ps with
    | nil => exact h
    | cons => simp at hl
  | cons b' bs ih => intro r h; cases ps with
    | nil => simp at hl
    | cons p' ps => exact star_mono (fun _ h => h) (ih (by simpa using hl)) (star_swap h)
/-- tried as often as it may be -/
abbrev Piece.spent (p : Piece) : Prop := p.lk = 1 ∧ p.ln.toUInt64 < p.sent
abbrev Piece.anew (p : Piece) (now : UInt32) : Piece := { p with sent := p.sent + 1, at_ := now, missed := 0, how := 0 }
def Fm.againK (now : UInt32) : Nat → Nat → Fm → Option Piece × Fm
  | 0, _, f => (none, f)
  | j + 1, k, f => match f.ps[k]? with
    | none => (none, f)
    | some p => if p.how ≠ 1 then againK now j (k + 1) f else if p.spent then againK now j (k + 1) (f.give p.m) else (some (p.anew now), { f with ps := f.ps.set k (p.anew now) })
def Fm.again (f : Fm) (now : UInt32) : Option Piece × Fm := Fm.againK now f.ps.length 0 f
section
variable {now : UInt32} {n k : Nat} {g : Fm} {p : Piece}
theorem againK_skip (hk : k < n) (hp : g.ps[k]? = some p) (h : p.how ≠ 1) : Fm.againK now (n - k) k g = Fm.againK now (n - (k + 1)) (k + 1) g := by
  rw [show n - k = (n - (k + 1)) + 1 by omega]; simp only [Fm.againK, hp, if_pos h]
theorem againK_give (hk : k < n) (hp : g.ps[k]? = some p) (h : p.how = 1) (hs : p.spent) : Fm.againK now (n - k) k g = Fm.againK now (n - (k + 1)) (k + 1) (g.give p.m) := by
  rw [show n - k = (n - (k + 1)) + 1 by omega]; simp only [Fm.againK, hp, if_neg (not_not_intro h), if_pos hs]
theorem againK_hit (hk : k < n) (hp : g.ps[k]? = some p) (h : p.how = 1) (hs : ¬ p.spent) : Fm.againK now (n - k) k g = (some (p.anew now), { g with ps := g.ps.set k (p.anew now) }) := by
  rw [show n - k = (n - (k + 1)) + 1 by omega]; simp only [Fm.againK, hp, if_neg (not_not_intro h), if_neg hs]
theorem againK_end (hk : n ≤ k) : Fm.againK now (n - k) k g = (none, g) := by
  rw [show n - k = 0 by omega]; rfl
end
/-- what lies behind a walk over the pieces that may give some up -/
structure Walked (f g : Fm) : Prop where
  mark : g.mark = f.mark
  len : g.ps.length = f.ps.length
  body : ∀ p ∈ g.ps, p.body.length ≤ 70000
  gone : g.gone.Nodup
  rng : (∀ p ∈ g.ps, Rng p.m) ∧ ∀ k ∈ g.gone, Rng k
theorem insI_nodup {l : List Int} (h : l.Nodup) (k : Int) : (insI l k).Nodup := by
  unfold insI; split
  · exact h
  · rename_i hk
    rw [List.nodup_append]
    exact ⟨h, by simp, fun a ha b hb => by simp only [List.mem_singleton] at hb; subst hb; exact fun e => hk (e ▸ ha)⟩
theorem Walked.refl {f : Fm} (hf : f.ok) : Walked f f := ⟨rfl, rfl, hf.body, hf.gone, hf.rng⟩
theorem Walked.give {f g : Fm} (h : Walked f g) (m : Int) (hm : Rng m) : Walked f (g.give m) := ⟨h.mark, by simpa using h.len, fun p hp => by
  obtain ⟨q, hq, rfl⟩ := List.mem_map.1 hp
  have := h.body q hq
  simp only [giveP]; split <;> exact this, insI_nodup h.gone m, fun p hp => by
  obtain ⟨q, hq, rfl⟩ := List.mem_map.1 hp
  have := h.rng.1 q hq
  simp only [giveP]; split <;> exact this, fun k hk => by
  simp only [insI] at hk
  split at hk
  · exact h.rng.2 k hk
  · rcases List.mem_append.1 hk with h' | h'
    · exact h.rng.2 k h'
    · simp only [List.mem_singleton] at h'; subst h'; exact hm⟩
def ckO : Option Piece → Ck × List UInt8
  | none => ({}, [])
  | some p => (p.c, p.body)
/-- behind its tick -/
abbrev Piece.over (now : UInt32) (p : Piece) : Prop := (p.isOpen ∧ p.lk = 2) ∧ less p.ln now
def Fm.expK (now : UInt32) : Nat → Nat → Fm → Fm
  | 0, _, f => f
  | j + 1, k, f => match f.ps[k]? with
    | none => f
    | some p => if p.over now then expK now j (k + 1) (f.give p.m) else expK now j (k + 1) f
def Fm.expireG (f : Fm) (now : UInt32) : Fm := Fm.expK now f.ps.length 0 f
def sortI (l : List Int) : List Int := l.mergeSort fun x y => decide (x ≤ y)
def Fm.expire (f : Fm) (now : UInt32) : List Int × Fm := (sortI (f.expireG now).gone, { f.expireG now with gone := [] })
section
variable {now : UInt32} {n k : Nat} {g : Fm} {p : Piece}
theorem expK_give (hk : k < n) (hp : g.ps[k]? = some p) (h : p.over now) : Fm.expK now (n - k) k g = Fm.expK now (n - (k + 1)) (k + 1) (g.give p.m) := by
  rw [show n - k = (n - (k + 1)) + 1 by omega]; simp only [Fm.expK, hp, if_pos h]
theorem expK_skip (hk : k < n) (hp : g.ps[k]? = some p) (h : ¬ p.over now) : Fm.expK now (n - k) k g = Fm.expK now (n - (k + 1)) (k + 1) g := by
  rw [show n - k = (n - (k + 1)) + 1 by omega]; simp only [Fm.expK, hp, if_neg h]
theorem expK_end (hk : n ≤ k) : Fm.expK now (n - k) k g = g := by
  rw [show n - k = 0 by omega]; rfl
end
def vIs (l : List Int) : List Value := l.map vI
end Go.Fl
