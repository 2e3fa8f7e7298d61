/- Sets of numbers that go round, as data: rows ahead of a mark. -/
import Derived.Test.YtogemllbdkbjkaaFlTypes
import Derived.Test.YtogemllbdkbjkaaSlCopy
set_option linter.unusedVariables false
set_option linter.unusedSimpArgs false
namespace Go.Fl
open Go Go.Sl
abbrev Row := UInt32 × UInt32
def rowc (l : List Row) : List Value := l.flatMap fun r => [vU32 r.1, vU32 r.2]
theorem rowc_length (l : List Row) : (rowc l).length = l.length * 2 := by
  induction l with
  | nil => rfl
  | cons g l ih => simp [rowc] at ih ⊢; omega
theorem rowc_cell (l : List Row) : (rowc l).all isCell = true := by simp [rowc, isCell, Value.oneCell']
theorem rowc_app (a b : List Row) : rowc (a ++ b) = rowc a ++ rowc b := by simp [rowc]
theorem rowc_take : ∀ (l : List Row) (i : Nat), (rowc l).take (i * 2) = rowc (l.take i)
  | [], i => by simp [rowc]
  | r :: l, 0 => by simp [rowc]
  | r :: l, i + 1 => by
    have ih := rowc_take l i
    rw [show (i + 1) * 2 = i * 2 + 2 by omega]
    show _ :: _ :: List.take (i * 2) (rowc l) = _
    rw [ih]; rfl
theorem rowc_drop : ∀ (l : List Row) (i : Nat), (rowc l).drop (i * 2) = rowc (l.drop i)
  | [], i => by simp [rowc]
  | r :: l, 0 => by simp [rowc]
  | r :: l, i + 1 => by
    have ih := rowc_drop l i
    rw [show (i + 1) * 2 = i * 2 + 2 by omega]
    exact ih
theorem rowc_at {l : List Row} {i : Nat} {r : Row} (h : l[i]? = some r) : ((rowc l).drop (i * 2)).take 2 = [vU32 r.1, vU32 r.2] := by
  rw [rowc_drop, List.drop_eq_getElem_cons (List.getElem?_eq_some_iff.1 h).1]
  have := (List.getElem?_eq_some_iff.1 h).2
  rw [this]; rfl
theorem rowc_get1 {l : List Row} {i : Nat} {r : Row} (h : l[i]? = some r) : (rowc l)[i * 2]? = some (vU32 r.1) := by
  have := rowc_at h
  have h2 : (((rowc l).drop (i * 2)).take 2)[0]? = some (vU32 r.1) := by rw [this]; rfl
  simpa [List.getElem?_take] using h2
theorem rowc_get2 {l : List Row} {i : Nat} {r : Row} (h : l[i]? = some r) : (rowc l)[i * 2 + 1]? = some (vU32 r.2) := by
  have := rowc_at h
  have h2 : (((rowc l).drop (i * 2)).take 2)[1]? = some (vU32 r.2) := by rw [this]; rfl
  simpa [List.getElem?_take] using h2
theorem rowc_set2 : ∀ {l : List Row} {i : Nat} {r : Row} (y : UInt32), l[i]? = some r → (rowc l).set (i * 2 + 1) (vU32 y) = rowc (l.set i (r.1, y))
  | [], _, _, _, h => by cases h
  | x :: l, 0, r, y, h => by simp only [List.getElem?_cons_zero, Option.some.injEq] at h; subst h; rfl
  | x :: l, i + 1, r, y, h => by
    simp only [List.getElem?_cons_succ] at h
    have ih := rowc_set2 y h
    rw [show (i + 1) * 2 + 1 = (i * 2 + 1) + 2 by omega]
    show _ :: _ :: (rowc l).set (i * 2 + 1) (vU32 y) = _
    rw [ih]; rfl
structure Sp where
  mark : UInt32
  rows : List Row
/-- a set in memory -/
def isS (b : Nat) (s : Sp) : HProp := ex fun (x : Option Addr × Nat) => star (cel true b 111 [vU32 s.mark, .slice x.1 s.rows.length x.2]) (sl true 2 (.slice x.1 s.rows.length x.2) s.rows.length (rowc s.rows))
theorem Mono.isS {b : Nat} {s : Sp} : Mono (isS b s) := Mono.ex fun _ => Mono.star Mono.cel
theorem G.openS {w0 : World} {n : Nat} {L : Env} {hs : List HProp} {F : HProp} {k : Act → World → Prop} {b : Nat} {s : Sp}
    (h : ∀ a c, G w0 n L (cel true b 111 [vU32 s.mark, .slice a s.rows.length c] :: sl true 2 (.slice a s.rows.length c) s.rows.length (rowc s.rows) :: hs) F k) : G w0 n L (isS b s :: hs) F k :=
  G.ex fun x => G.star (h x.1 x.2)
theorem entS {b : Nat} {s : Sp} {a : Option Addr} {c n : Nat} {hs m k : List HProp} {cs : List Value} (h1 : Ent hs (cel true b 111 [vU32 s.mark, .slice a n c]) m) (h2 : Ent m (sl true 2 (.slice a n c) n cs) k) (hn : n = s.rows.length) (hc : cs = rowc s.rows) :
    Ent hs (isS b s) k := by
  subst hn; subst hc
  exact (Ent.star h1 h2).imp fun q hq => ⟨(a, c), hq⟩
/-! ### what the functions compute -/
def bsf (rows : List Row) (d : UInt32) : Nat → Nat → Nat → Nat
  | 0, i, _ => i
  | k + 1, i, j => if i < j then (if (rows.getD ((i + j) / 2) (0, 0)).2 < d then bsf rows d k ((i + j) / 2 + 1) j else bsf rows d k i ((i + j) / 2)) else i
def atS (rows : List Row) (d : UInt32) : Nat := bsf rows d rows.length 0 rows.length
theorem bsf_end {rows : List Row} {d : UInt32} {k i j : Nat} (h : j ≤ i) : bsf rows d k i j = i := by
  cases k with
  | zero => rfl
  | succ k => simp only [bsf]; rw [if_neg (by omega)]
theorem bsf_fuel {rows : List Row} {d : UInt32} : ∀ (k k' i j : Nat), j - i ≤ k → j - i ≤ k' → bsf rows d k i j = bsf rows d k' i j
  | 0, k', i, j, h, _ => by rw [bsf_end (k := k') (by omega)]; rfl
  | k + 1, 0, i, j, _, h => by rw [bsf_end (k := k + 1) (by omega)]; rfl
  | k + 1, k' + 1, i, j, h, h' => by
    simp only [bsf]
    split
    · split
      · exact bsf_fuel k k' _ _ (by omega) (by omega)
      · exact bsf_fuel k k' _ _ (by omega) (by omega)
    · rfl
theorem bsf_low {rows : List Row} {d : UInt32} {k i j : Nat} (hij : i < j) (hk : j - i ≤ k) (h : (rows.getD ((i + j) / 2) (0, 0)).2 < d) : bsf rows d k i j = bsf rows d k ((i + j) / 2 + 1) j := by
  obtain ⟨k, rfl⟩ : ∃ q, k = q + 1 := ⟨k - 1, by omega⟩
  conv => lhs; simp only [bsf]
  rw [if_pos hij, if_pos h]
  exact bsf_fuel _ _ _ _ (by omega) (by omega)
theorem bsf_high {rows : List Row} {d : UInt32} {k i j : Nat} (hij : i < j) (hk : j - i ≤ k) (h : ¬ (rows.getD ((i + j) / 2) (0, 0)).2 < d) : bsf rows d k i j = bsf rows d k i ((i + j) / 2) := by
  obtain ⟨k, rfl⟩ : ∃ q, k = q + 1 := ⟨k - 1, by omega⟩
  conv => lhs; simp only [bsf]
  rw [if_pos hij, if_neg h]
  exact bsf_fuel _ _ _ _ (by omega) (by omega)
theorem bsf_le {rows : List Row} {d : UInt32} : ∀ (k i j : Nat), i ≤ j → bsf rows d k i j ≤ j
  | 0, i, j, h => h
  | k + 1, i, j, h => by
    simp only [bsf]
    split
    · split
      · exact bsf_le k _ _ (by omega)
      · exact Nat.le_trans (bsf_le k _ _ (by omega)) (by omega)
    · exact h
theorem atS_le (rows : List Row) (d : UInt32) : atS rows d ≤ rows.length := bsf_le _ _ _ (Nat.zero_le _)
def rAt (rows : List Row) (i : Nat) : Row := rows.getD i (0, 0)
abbrev hasAt (rows : List Row) (i : Nat) (d : UInt32) : Prop := i < rows.length ∧ (rAt rows i).1 ≤ d
def Sp.has (s : Sp) (t : UInt32) : Bool := if less s.mark t then decide (hasAt s.rows (atS s.rows (dist s.mark t)) (dist s.mark t)) else decide (t = s.mark ∨ less t s.mark = true)
def movR (by_ : UInt32) (r : Row) : Row := ((if r.1 < by_ + 1 then by_ + 1 else r.1) - by_, r.2 - by_)
def Sp.move (s : Sp) (by_ : UInt32) : Sp := ⟨s.mark + by_, (s.rows.filter fun r => decide (by_ < r.2)).map (movR by_)⟩
abbrev opens1 (rows : List Row) : Prop := 0 < rows.length ∧ (rAt rows 0).1 = 1
def Sp.settle (s : Sp) : Sp := if opens1 s.rows then s.move (rAt s.rows 0).2 else s
def Sp.skip (s : Sp) (t : UInt32) : Bool × Sp := if less s.mark t then (true, (s.move (dist s.mark t)).settle) else (false, s)
abbrev tiesR (rows : List Row) (i : Nat) (d : UInt32) : Prop := i + 1 < rows.length ∧ (rAt rows (i + 1)).1 = d + 1
abbrev tiesL (rows : List Row) (i : Nat) (d : UInt32) : Prop := 0 < i ∧ (rAt rows (i - 1)).2 + 1 = d
/-- the row behind it joins it -/
def joinR (rows : List Row) (i : Nat) (d : UInt32) : List Row := if tiesR rows i d then (rows.set i ((rAt rows i).1, (rAt rows (i + 1)).2)).eraseIdx (i + 1) else rows
def joinL (rows : List Row) (i : Nat) (d : UInt32) : List Row := if tiesL rows i d then (rows.set (i - 1) ((rAt rows (i - 1)).1, (rAt rows i).2)).eraseIdx i else rows
def insR (rows : List Row) (i : Nat) (r : Row) : List Row := rows.take i ++ r :: rows.drop i
def addR (rows : List Row) (i : Nat) (d : UInt32) : List Row := joinL (joinR (insR rows i (d, d)) i d) i d
/-- 0 fresh, 1 twice, 2 far -/
def Sp.add (s : Sp) (t : UInt32) : Int × Sp :=
  if less s.mark t then
    if 4096 < dist s.mark t then (2, s)
    else if hasAt s.rows (atS s.rows (dist s.mark t)) (dist s.mark t) then (1, s)
    else (0, (⟨s.mark, addR s.rows (atS s.rows (dist s.mark t)) (dist s.mark t)⟩ : Sp).settle)
  else (1, s)
def movK (rows : List Row) (by_ : UInt32) (k : Nat) : List Row := ((rows.take k).filter fun r => decide (by_ < r.2)).map (movR by_)
theorem movK_yes {rows : List Row} {by_ : UInt32} {k : Nat} {r : Row} (h : rows[k]? = some r) (hr : by_ < r.2) : movK rows by_ (k + 1) = movK rows by_ k ++ [movR by_ r] := by
  simp [movK, List.take_add_one, h, hr]
theorem movK_no {rows : List Row} {by_ : UInt32} {k : Nat} {r : Row} (h : rows[k]? = some r) (hr : ¬ by_ < r.2) : movK rows by_ (k + 1) = movK rows by_ k := by
  simp [movK, List.take_add_one, h, hr]
theorem movK_all (rows : List Row) (by_ : UInt32) : movK rows by_ rows.length = (rows.filter fun r => decide (by_ < r.2)).map (movR by_) := by simp [movK]
theorem movK_len (rows : List Row) (by_ : UInt32) (k : Nat) : (movK rows by_ k).length ≤ rows.length := by
  unfold movK; rw [List.length_map]
  have h1 := List.length_filter_le (fun r : Row => decide (by_ < r.2)) (rows.take k)
  have h2 : (rows.take k).length ≤ rows.length := by simp; omega
  omega
theorem rowc_snoc (l : List Row) (r : Row) : rowc l ++ [vU32 r.1, vU32 r.2] = rowc (l ++ [r]) := by rw [rowc_app]; rfl
theorem rAt_get {rows : List Row} {i : Nat} (h : i < rows.length) : rows[i]? = some (rAt rows i) := by simp [rAt, List.getD_eq_getElem?_getD, h]
theorem rowc_1 {rows : List Row} {i : Nat} (h : i < rows.length) : (rowc rows)[i * 2]? = some (vU32 (rAt rows i).1) := rowc_get1 (rAt_get h)
theorem rowc_2 {rows : List Row} {i : Nat} (h : i < rows.length) : (rowc rows)[i * 2 + 1]? = some (vU32 (rAt rows i).2) := rowc_get2 (rAt_get h)
/-! ### numbers -/
theorem half64 {i j : Nat} (h : i + j < 4611686018427387904) : (UInt64.ofNat (((i : Int) + (j : Int)) % 18446744073709551616).toNat / 2).toNat = (i + j) / 2 := by
  rw [UInt64.toNat_div, UInt64.toNat_ofNat_of_lt' (by show (((i : Int) + (j : Int)) % 18446744073709551616).toNat < 18446744073709551616; omega)]
  show (((i : Int) + (j : Int)) % 18446744073709551616).toNat / 2 = _
  omega
section
variable {P : Program} {L : Env} {hs : List HProp} {dst : Option Tmp} {ty : TypeId} {pos : String} {aft : Array Edge} {g : Option (Nat × Bool)}
theorem Yld.shr1_u64 {x y : Operand} {t t' : TypeId} {a : UInt64} (hx : L.ev x = some (vU64 a)) (hy : L.ev y = some (.int .u64 1)) :
    Yld P ⟨dst, .binOp .shr t x y t', ty, pos, aft, g⟩ L hs (vU64 (a / 2)) := Yld.bin hx hy fun w => by
  have e : ((a.toNat : Int)).fdiv (2 ^ 1) = ((a / 2).toNat : Int) := by
    rw [Int.fdiv_eq_ediv_of_nonneg _ (by decide), UInt64.toNat_div]
    show (a.toNat : Int) / 2 = ((a.toNat / 2 : Nat) : Int)
    omega
  have h : (do eqGuard .shr t x y (vU64 a) (.int .u64 1); binOp .shr t (vU64 a) (.int .u64 1) : Sem Value).run P w = .ok (.int .u64 ((a.toNat : Int).fdiv (2 ^ 1))) w := rfl
  rw [h, e]
theorem Yld.max_u32 {x y : Operand} {a b : UInt32} {ts : Array TypeId} (hx : L.ev x = some (vU32 a)) (hy : L.ev y = some (vU32 b)) :
    Yld P ⟨dst, .call ⟨.builtin .max, #[x, y], ts⟩, ty, pos, aft, g⟩ L hs (vU32 (if a < b then b else a)) := by
  intro ρ w F hev hh
  have e : (if (b.toNat : Int) > (a.toNat : Int) then (.int .u32 (b.toNat : Int) : Value) else .int .u32 (a.toNat : Int)) = vU32 (if a < b then b else a) := by
    by_cases h : a < b
    · rw [if_pos h, if_pos (by rw [UInt32.lt_iff_toNat_lt] at h; omega)]
    · rw [if_neg h, if_neg (by rw [UInt32.lt_iff_toNat_lt] at h; omega)]
  simp only [execOp, resolve, invoke, builtin, Builtin.max_, Builtin.max2, List.map_toArray, List.map_cons, List.map_nil, hev x _ hx, hev y _ hy, Sem.run_bind, Sem.run_pure, Result.andThen_ok, List.foldlM_cons, List.foldlM_nil]
  rw [← e]
  congr 2
  split <;> rfl
end
/-! ### rows cut and joined, as cells -/
abbrev rowv (r : Row) : List Value := [vU32 r.1, vU32 r.2]
theorem rowc_cons (r : Row) (l : List Row) : rowc (r :: l) = rowv r ++ rowc l := rfl
theorem rowc_insR (rows : List Row) (i : Nat) (r : Row) : rowc (insR rows i r) = rowc (rows.take i) ++ rowv r ++ rowc (rows.drop i) := by
  rw [insR, rowc_app, rowc_cons, List.append_assoc]
theorem rowc_split (rows : List Row) (i : Nat) : rowc rows = rowc (rows.take i) ++ rowc (rows.drop i) := by rw [← rowc_app, List.take_append_drop]
theorem len_take {rows : List Row} {i : Nat} (hi : i ≤ rows.length) : (rowc (rows.take i)).length = i * 2 := by rw [rowc_length, List.length_take]; omega
theorem len_drop {rows : List Row} {i : Nat} : (rowc (rows.drop i)).length = (rows.length - i) * 2 := by rw [rowc_length, List.length_drop]
theorem ins1 {pre post : List Value} {rows : List Row} {i off : Nat} (hp : pre.length = off) (hi : i ≤ rows.length) (hpo : 2 ≤ post.length) :
    putL (pre ++ rowc rows ++ post) (off + (i + 1) * 2) (rowc (rows.drop i)) = pre ++ rowc (rows.take i) ++ (rowc (rows.drop i) ++ post).take 2 ++ rowc (rows.drop i) ++ post.drop 2 := by
  have e : pre ++ rowc rows ++ post = (pre ++ rowc (rows.take i) ++ (rowc (rows.drop i) ++ post).take 2) ++ (((rowc (rows.drop i) ++ post).drop 2).take (rowc (rows.drop i)).length) ++ post.drop 2 := by
    have h1 : (rowc (rows.drop i) ++ post).drop 2 = ((rowc (rows.drop i) ++ post).drop 2).take (rowc (rows.drop i)).length ++ post.drop 2 := by
      conv => lhs; rw [← List.take_append_drop (rowc (rows.drop i)).length ((rowc (rows.drop i) ++ post).drop 2)]
      congr 1
      rw [List.drop_drop, List.drop_append]
      rw [List.drop_eq_nil_of_le (by omega), List.nil_append]
      congr 1; omega
    rw [List.append_assoc, List.append_assoc, ← h1, List.append_assoc, List.append_assoc, List.take_append_drop]
    rw [← List.append_assoc (rowc (rows.take i)), ← rowc_split]
  rw [e]
  refine putL_mid ?_ ?_
  · simp only [List.length_append, List.length_take, len_take hi, hp, len_drop]; omega
  · simp only [List.length_take, List.length_drop, List.length_append, len_drop]; omega
theorem ins2 {pre Z X : List Value} {rows : List Row} {i off : Nat} {r : Row} (hp : pre.length = off) (hi : i ≤ rows.length) (hX : X.length = 2) :
    putL (pre ++ rowc (rows.take i) ++ X ++ rowc (rows.drop i) ++ Z) (off + i * 2) (rowv r) = pre ++ rowc (insR rows i r) ++ Z := by
  rw [rowc_insR]
  have := putL_mid (X := pre ++ rowc (rows.take i)) (Y := X) (Z := rowc (rows.drop i) ++ Z) (D := rowv r) (o := off + i * 2) (by simp [len_take hi, hp]) (by simp [hX])
  simp only [List.append_assoc] at this ⊢
  exact this
theorem grow1 {gz : List Value} {rows : List Row} {i : Nat} {r : Row} (hi : i ≤ rows.length) (hz : 2 ≤ gz.length) : putL ((rowc rows).take (i * 2) ++ gz) (0 + i * 2) (rowv r) = rowc (rows.take i) ++ rowv r ++ gz.drop 2 := by
  have e : (rowc rows).take (i * 2) ++ gz = rowc (rows.take i) ++ gz.take 2 ++ gz.drop 2 := by rw [rowc_take, List.append_assoc, List.take_append_drop]
  rw [e]
  exact putL_mid (by rw [len_take hi]; omega) (by simp; omega)
theorem grow2 {gz : List Value} {rows : List Row} {i : Nat} {r : Row} (hi : i ≤ rows.length) (hz : (rows.length - i) * 2 ≤ gz.length) : putL (rowc (rows.take i) ++ rowv r ++ gz) (0 + (i + 1) * 2) (rowc (rows.drop i)) = rowc (insR rows i r) ++ gz.drop ((rows.length - i) * 2) := by
  have e : rowc (rows.take i) ++ rowv r ++ gz = (rowc (rows.take i) ++ rowv r) ++ gz.take ((rows.length - i) * 2) ++ gz.drop ((rows.length - i) * 2) := by rw [List.append_assoc (rowc (rows.take i) ++ rowv r), List.take_append_drop]
  rw [e, rowc_insR]
  exact putL_mid (by simp [len_take hi]; omega) (by rw [len_drop, List.length_take]; omega)
theorem rowc_erase {rows : List Row} {i : Nat} : rowc (rows.eraseIdx i) = rowc (rows.take i) ++ rowc (rows.drop (i + 1)) := by rw [List.eraseIdx_eq_take_drop_succ, rowc_app]
theorem del1 {pre post : List Value} {rows : List Row} {i off : Nat} (hp : pre.length = off) (hi : i < rows.length) :
    putL (pre ++ rowc rows ++ post) (off + i * 2) (rowc (rows.drop (i + 1))) = pre ++ rowc (rows.eraseIdx i) ++ (rowc rows).drop ((rows.length - 1) * 2) ++ post := by
  have e : rowc rows = rowc (rows.take i) ++ ((rowc (rows.drop i)).take ((rows.length - (i + 1)) * 2)) ++ (rowc rows).drop ((rows.length - 1) * 2) := by
    have h1 : (rowc rows).drop ((rows.length - 1) * 2) = (rowc (rows.drop i)).drop ((rows.length - (i + 1)) * 2) := by
      rw [rowc_drop, rowc_drop, List.drop_drop]; congr 2; omega
    rw [h1, List.append_assoc, List.take_append_drop, ← rowc_split]
  have hl2 : ((rowc (rows.drop i)).take ((rows.length - (i + 1)) * 2)).length = (rowc (rows.drop (i + 1))).length := by rw [List.length_take, len_drop, len_drop]; omega
  rw [rowc_erase]
  have h := putL_mid (X := pre ++ rowc (rows.take i)) (Y := (rowc (rows.drop i)).take ((rows.length - (i + 1)) * 2)) (Z := (rowc rows).drop ((rows.length - 1) * 2) ++ post) (D := rowc (rows.drop (i + 1))) (o := off + i * 2) (by simp [len_take (Nat.le_of_lt hi), hp]) hl2
  have e2 : pre ++ rowc rows ++ post = pre ++ rowc (rows.take i) ++ ((rowc (rows.drop i)).take ((rows.length - (i + 1)) * 2)) ++ ((rowc rows).drop ((rows.length - 1) * 2) ++ post) := by
    conv => lhs; rw [e]
    simp only [List.append_assoc]
  rw [e2, h]; simp only [List.append_assoc]
theorem del2 {pre post Y ds : List Value} {rows : List Row} {off n : Nat} (hp : pre.length = off) (hn : rows.length = n) (hY : Y.length = 2) (hd : ds.length = 1 * 2) :
    putL (pre ++ rowc rows ++ Y ++ post) (off + n * 2) ds = pre ++ rowc rows ++ (ds ++ post) := by
  have := putL_mid (X := pre ++ rowc rows) (Y := Y) (Z := post) (D := ds) (o := off + n * 2) (by simp [rowc_length, hp, hn]) (by omega)
  rw [this, List.append_assoc]
theorem joinR_len {rows : List Row} {i : Nat} {d : UInt32} : (joinR rows i d).length ≤ rows.length := by
  unfold joinR; split
  · simp [List.length_eraseIdx]; split <;> omega
  · exact Nat.le_refl _
theorem insR_length {rows : List Row} {i : Nat} {r : Row} (hi : i ≤ rows.length) : (insR rows i r).length = rows.length + 1 := by simp [insR]; omega
theorem mid_read {pre post : List Value} {rows : List Row} {i off : Nat} (hp : pre.length = off) (hi : i ≤ rows.length) : ((pre ++ rowc rows ++ post).drop (off + i * 2)).take (rowc (rows.drop i)).length = rowc (rows.drop i) := by
  have e : pre ++ rowc rows ++ post = (pre ++ rowc (rows.take i)) ++ (rowc (rows.drop i) ++ post) := by
    conv => lhs; rw [rowc_split rows i]
    simp only [List.append_assoc]
  rw [e, List.drop_left' (by simp [len_take hi, hp]), List.take_left' rfl]
theorem del_read {hs hs' : List HProp} {b off c : Nat} {T : TypeId} {pre post : List Value} {rows : List Row} {i : Nat} (hp : Pick hs (Sl.cel true b T (pre ++ rowc rows ++ post)) hs') (hpre : pre.length = off) (hi : i < rows.length) (hcap : rows.length ≤ c) :
    rows.length - (i + 1) = 0 ∨ ∃ a, (if c = i + 1 then some (⟨b, off, none⟩ : Addr) else (some (⟨b, off, none⟩ : Addr)).map (·.add ((i + 1) * 2))) = some a ∧ Reads hs a (rowc (rows.drop (i + 1))) := by
  by_cases hz : rows.length - (i + 1) = 0
  · exact .inl hz
  · by_cases hc : c = i + 1
    · omega
    · refine .inr ⟨⟨b, off + (i + 1) * 2, none⟩, ?_, Reads.cel hp (mid_read hpre (by omega))⟩
      rw [if_neg hc]; simp [addr_add]
theorem joined {rows R : List Row} {i : Nat} {d : UInt32} {r : Row} (hi : i ≤ rows.length) (hR : joinR (insR rows i r) i d = R) : i < R.length ∧ R.length ≤ rows.length + 1 := by
  have hl := insR_length (r := r) hi
  subst hR
  unfold joinR
  split
  · rename_i h
    have h1 := h.1
    rw [List.length_eraseIdx_of_lt (by rw [List.length_set]; omega), List.length_set]; omega
  · omega
theorem joinL_len {rows : List Row} {i : Nat} {d : UInt32} : (joinL rows i d).length ≤ rows.length := by
  unfold joinL; split
  · simp [List.length_eraseIdx]; split <;> omega
  · exact Nat.le_refl _
section
variable {s : Sp} {t d : UInt32} {i : Nat}
theorem add_back (h : less s.mark t = false) : s.add t = (1, s) := by simp [Sp.add, h]
theorem add_far (h : less s.mark t = true) (hf : 4096 < dist s.mark t) : s.add t = (2, s) := by simp only [Sp.add, h, if_true, if_pos hf]
theorem add_has (h : less s.mark t = true) (hd : dist s.mark t = d) (hf : ¬ 4096 < d) (hi : atS s.rows d = i) (hh : hasAt s.rows i d) : s.add t = (1, s) := by
  simp only [Sp.add, h, if_true, hd, if_neg hf, hi, if_pos hh]
theorem add_new (h : less s.mark t = true) (hd : dist s.mark t = d) (hf : ¬ 4096 < d) (hi : atS s.rows d = i) (hh : ¬ hasAt s.rows i d) : s.add t = (0, (⟨s.mark, addR s.rows i d⟩ : Sp).settle) := by
  simp only [Sp.add, h, if_true, hd, if_neg hf, hi, if_neg hh]
theorem has_back (h : less s.mark t = false) : s.has t = decide (t = s.mark ∨ less t s.mark = true) := by simp only [Sp.has, h, Bool.false_eq_true, if_false]
theorem has_on (h : less s.mark t = true) (hi : atS s.rows (dist s.mark t) = i) : s.has t = decide (hasAt s.rows i (dist s.mark t)) := by simp only [Sp.has, h, if_true, hi]
theorem skip_back (h : less s.mark t = false) : s.skip t = (false, s) := by simp [Sp.skip, h]
theorem skip_on (h : less s.mark t = true) : s.skip t = (true, (s.move (dist s.mark t)).settle) := by simp only [Sp.skip, h, if_true]
end
end Go.Fl
