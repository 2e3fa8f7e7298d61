/- A flight of pieces as data, and how it lies in memory. -/
import Derived.Test.YtogemllbdkbjkaaFlTypes
import Derived.Test.YtogemllbdkbjkaaSlMap
set_option linter.unusedVariables false
set_option linter.unusedSimpArgs false
namespace Go.Fl
open Go Go.Sl
/-- a piece: how 0 away, 1 lost, 2 arrived, 3 gone -/
structure Piece where
  c : Ck
  body : List UInt8
  m : Int
  lk : Int
  ln : UInt32
  sent : UInt64
  at_ : UInt32
  missed : Int
  how : Int
  deriving Inhabited
def Piece.isOpen (p : Piece) : Bool := decide (p.how = 0 ∨ p.how = 1)
/-- the numbers that are counted stay small -/
def Piece.ok (p : Piece) : Prop := 0 ≤ p.missed ∧ p.missed ≤ 3 ∧ p.body.length ≤ 70000
structure Fm where
  mark : UInt32
  ps : List Piece
  gone : List Int
/-- the cells of a piece -/
abbrev pcv (p : Piece) (bv : Value) : List Value :=
  ckv p.c nilS nilS nilS nilS bv ++ [vI p.m, vI p.lk, vU32 p.ln, vU64 p.sent, vU32 p.at_, vI p.missed, vI p.how]
/-- a piece in memory -/
def isP (b : Nat) (p : Piece) : HProp := ex fun bv => star (bys bv p.body) (cel true b 93 (pcv p bv))
/-- pieces in memory -/
def isPs : List Nat → List Piece → HProp
  | [], [] => emp
  | b :: bs, p :: ps => star (isP b p) (isPs bs ps)
  | _, _ => lift False
theorem isPs_len {bs : List Nat} {ps : List Piece} : ∀ {r : Res}, isPs bs ps r → bs.length = ps.length := by
  induction bs generalizing ps with
  | nil => intro r h; cases ps with
    | nil => rfl
    | cons p ps => exact h.elim
  | cons b bs ih => intro r h; cases ps with
    | nil => exact h.elim
    | cons p ps => obtain ⟨r1, r2, _, _, _, h2⟩ := h; simp [ih h2]
theorem Mono.isP {b : Nat} {p : Piece} : Mono (isP b p) := Mono.ex fun _ => Mono.star Mono.sl
theorem Mono.isPs : ∀ {bs : List Nat} {ps : List Piece}, Mono (isPs bs ps)
  | [], [] => Mono.emp
  | [], _ :: _ => Mono.lift
  | _ :: _, [] => Mono.lift
  | _ :: _, _ :: _ => Mono.star Mono.isP
/-- one out of the pieces, and the rest around it -/
theorem isPs_split {bs : List Nat} {ps : List Piece} {k : Nat} {b : Nat} {p : Piece} (hb : bs[k]? = some b) (hp : ps[k]? = some p) : ∀ r, isPs bs ps r → star (isP b p) (star (isPs (bs.take k) (ps.take k)) (isPs (bs.drop (k + 1)) (ps.drop (k + 1)))) r := by
  induction k generalizing bs ps with
  | zero =>
    intro r h
    cases bs with
    | nil => cases hb
    | cons b' bs =>
      cases ps with
      | nil => cases hp
      | cons p' ps =>
        simp only [List.getElem?_cons_zero, Option.some.injEq] at hb hp
        subst hb; subst hp
        simp only [List.take_zero, List.drop_succ_cons, List.drop_zero]
        exact star_mono (fun _ h => h) (fun _ h => star_emp h) h
  | succ k ih =>
    intro r h
    cases bs with
    | nil => cases hb
    | cons b' bs =>
      cases ps with
      | nil => cases hp
      | cons p' ps =>
        simp only [List.getElem?_cons_succ] at hb hp
        simp only [List.take_succ_cons, List.drop_succ_cons]
        have h1 := star_mono (fun _ h => h) (ih hb hp) h
        have h2 := star_swap h1
        exact star_mono (fun _ h => h) (fun _ h => star_assoc' h) h2
theorem isPs_join {bs : List Nat} {ps : List Piece} {k : Nat} {b : Nat} {p : Piece} (hb : bs[k]? = some b) (hk : k < ps.length) : ∀ r, star (isP b p) (star (isPs (bs.take k) (ps.take k)) (isPs (bs.drop (k + 1)) (ps.drop (k + 1)))) r → isPs bs (ps.set k p) r := by
  induction k generalizing bs ps with
  | zero =>
    intro r h
    cases bs with
    | nil => cases hb
    | cons b' bs =>
      cases ps with
      | nil => cases hk
      | cons p' ps =>
        simp only [List.getElem?_cons_zero, Option.some.injEq] at hb
        subst hb
        simp only [List.take_zero, List.drop_succ_cons, List.drop_zero, List.set_cons_zero] at h ⊢
        exact star_mono (fun _ h => h) (fun _ h => star_unemp Mono.isPs h) h
  | succ k ih =>
    intro r h
    cases bs with
    | nil => cases hb
    | cons b' bs =>
      cases ps with
      | nil => cases hk
      | cons p' ps =>
        simp only [List.getElem?_cons_succ] at hb
        simp only [List.take_succ_cons, List.drop_succ_cons, List.set_cons_succ] at h ⊢
        have h1 := star_mono (fun _ h => h) (fun _ h => star_assoc h) h
        have h2 := star_swap h1
        exact star_mono (fun _ h => h) (ih hb (by simpa using hk)) h2
/-- what is done to each piece has been done to the first k -/
def curAt (f : Piece → Piece) (k : Nat) (ps : List Piece) : List Piece := (ps.take k).map f ++ ps.drop k
theorem curAt_zero (f : Piece → Piece) (ps : List Piece) : curAt f 0 ps = ps := by simp [curAt]
theorem curAt_length (f : Piece → Piece) (k : Nat) (ps : List Piece) : (curAt f k ps).length = ps.length := by simp [curAt]; omega
theorem curAt_get {f : Piece → Piece} {k : Nat} {ps : List Piece} {p : Piece} (h : ps[k]? = some p) : (curAt f k ps)[k]? = some p := by
  have hk : k < ps.length := (List.getElem?_eq_some_iff.1 h).1
  simp only [curAt]
  rw [List.getElem?_append_right (by simp; omega)]
  simp [Nat.min_eq_left (Nat.le_of_lt hk), h]
theorem curAt_set {f : Piece → Piece} {k : Nat} {ps : List Piece} {p : Piece} (h : ps[k]? = some p) : (curAt f k ps).set k (f p) = curAt f (k + 1) ps := by
  have hk : k < ps.length := (List.getElem?_eq_some_iff.1 h).1
  have hd : ps.drop k = p :: ps.drop (k + 1) := by
    rw [List.drop_eq_getElem_cons hk]; congr 1; exact Option.some.inj (by rw [← h]; simp [hk])
  have ht : ps.take (k + 1) = ps.take k ++ [p] := by rw [List.take_add_one]; simp [h]
  simp only [curAt, hd, ht, List.map_append, List.map_cons, List.map_nil]
  rw [List.set_append_right _ _ (by simp; omega)]
  simp [Nat.min_eq_left (Nat.le_of_lt hk)]
theorem curAt_end {f : Piece → Piece} {k : Nat} {ps : List Piece} (h : ps.length ≤ k) : curAt f k ps = ps.map f := by
  simp [curAt, List.take_of_length_le h, List.drop_eq_nil_of_le h]
/-- a flight in memory -/
abbrev goneC (l : List Int) : List (Int × Value) := l.map fun k => (k, .bool true)
abbrev encI (k : Int) : Value := .int .i64 k
def isF (b : Nat) (f : Fm) : HProp := ex fun (x : Value × List Nat × Nat) =>
  star (cel true b 87 [vU32 f.mark, x.1, .map (some x.2.2)]) (star (sl true 1 x.1 f.ps.length (ptc x.2.1)) (star (isPs x.2.1 f.ps) (mapA encI x.2.2 (goneC f.gone))))
theorem G.openF {w0 : World} {n : Nat} {L : Env} {hs : List HProp} {F : HProp} {k : Act → World → Prop} {b : Nat} {f : Fm}
    (h : ∀ v bs r, bs.length = f.ps.length → G w0 n L (cel true b 87 [vU32 f.mark, v, .map (some r)] :: sl true 1 v f.ps.length (ptc bs) :: isPs bs f.ps :: mapA encI r (goneC f.gone) :: hs) F k) : G w0 n L (isF b f :: hs) F k := by
  refine G.ex fun x => G.star4 fun a w s => ?_
  obtain ⟨v, bs, r⟩ := x
  have hl : bs.length = f.ps.length := by
    obtain ⟨q, _, hq⟩ := s.holds.right.right.left
    exact isPs_len hq
  exact h v bs r hl a w s
theorem entF {b : Nat} {f : Fm} {v : Value} {bs : List Nat} {r n : Nat} {hs m k l j : List HProp} (h1 : Ent hs (cel true b 87 [vU32 f.mark, v, .map (some r)]) m) (h2 : Ent m (sl true 1 v n (ptc bs)) k) (hn : n = f.ps.length)
    (h3 : Ent k (isPs bs f.ps) l) (h4 : Ent l (mapA encI r (goneC f.gone)) j) : Ent hs (isF b f) j := by
  subst hn
  exact (Ent.star h1 (Ent.star h2 (Ent.star h3 h4))).imp fun q hq => ⟨(v, bs, r), hq⟩
/-- an address in a row of them -/
theorem ptc_at {pre post : List Value} {bs : List Nat} {off : Nat} {k : Nat} {b : Nat} (hpre : pre.length = off) (hb : bs[k]? = some b) : (pre ++ ptc bs ++ post)[off + ((k : Int)).toNat * 1]? = some (ptr b) := by
  have hk : k < bs.length := (List.getElem?_eq_some_iff.1 hb).1
  rw [List.append_assoc, List.getElem?_append_right (by omega), show off + ((k : Int)).toNat * 1 - pre.length = k by simp; omega, List.getElem?_append_left (by simp [ptc]; omega)]
  simp [ptc, hb]
theorem entPs {hs m1 m2 m3 : List HProp} {bs : List Nat} {cur cur' : List Piece} {k bk : Nat} {p' : Piece} (hbk : bs[k]? = some bk) (h1 : Ent hs (isP bk p') m1) (h2 : Ent m1 (isPs (bs.take k) (cur.take k)) m2)
    (h3 : Ent m2 (isPs (bs.drop (k + 1)) (cur.drop (k + 1))) m3) (hs' : cur.set k p' = cur') (hk : k < cur.length) : Ent hs (isPs bs cur') m3 :=
  (Ent.star h1 (Ent.star h2 h3)).imp fun q hq => hs' ▸ isPs_join hbk hk q hq
theorem entP {hs m1 m2 : List HProp} {b : Nat} {p : Piece} {bv : Value} {cs : List Value} (h1 : Ent hs (bys bv p.body) m1) (h2 : Ent m1 (cel true b 93 cs) m2) (hc : cs = pcv p bv) : Ent hs (isP b p) m2 :=
  .ex bv (.star h1 (by rw [← hc]; exact h2))
theorem set_same {ps : List Piece} {k : Nat} {p : Piece} (h : ps[k]? = some p) : ps.set k p = ps := by
  have hk : k < ps.length := (List.getElem?_eq_some_iff.1 h).1
  have : ps[k] = p := Option.some.inj (by rw [← h]; simp [hk])
  rw [← this]; exact List.set_getElem_self hk
end Go.Fl
