/- Slices: n elements of k cells each, in memory that is had alone (m = true) or shared. -/
import Derived.Test.YtogemllbdkbjkaaSlBody
import Derived.Test.YtogemllbdkbjkaaSlNum
import Derived.Deep.Upon
set_option linter.unusedVariables false
set_option linter.unusedSimpArgs false
namespace Go.Sl
open Go
/-- v is a slice of n elements of k cells; cs are their cells (one without room has no memory) -/
def sl (m : Bool) (k : Nat) (v : Value) (n : Nat) (cs : List Value) : HProp := fun r =>
  (∃ a, v = .slice a 0 0 ∧ n = 0 ∧ cs = []) ∨
  (∃ b T off cap pre post, v = .slice (some ⟨b, off, none⟩) n cap ∧ pre.length = off ∧ cs.length = n * k ∧ (cap - n) * k ≤ post.length ∧ n ≤ cap ∧ cel m b T (pre ++ cs ++ post) r)
theorem Mono.sl {m : Bool} {k : Nat} {v : Value} {n : Nat} {cs : List Value} : Mono (Sl.sl m k v n cs) := fun r r' hs h => by
  rcases h with h0 | ⟨b, T, off, cap, pre, post, h1, h2, h3, h4, h5, hc⟩
  · exact .inl h0
  · exact .inr ⟨b, T, off, cap, pre, post, h1, h2, h3, h4, h5, Mono.cel _ _ hs hc⟩
theorem sl_nil {m : Bool} {k : Nat} {r : Res} : sl m k (.slice none 0 0) 0 [] r := .inl ⟨none, rfl, rfl, rfl⟩
theorem sl_empty {m : Bool} {k : Nat} {a : Option Addr} {r : Res} : sl m k (.slice a 0 0) 0 [] r := .inl ⟨a, rfl, rfl, rfl⟩
theorem sl_len {m : Bool} {k : Nat} {v : Value} {n : Nat} {cs : List Value} {r : Res} (h : sl m k v n cs r) : cs.length = n * k := by
  rcases h with ⟨_, _, rfl, rfl⟩ | ⟨b, T, off, cap, pre, post, _, _, h, _⟩
  · simp
  · exact h
section
variable {P : Program} {w0 : World} {n : Nat} {L : Env} {hs : List HProp} {F : HProp} {k : Act → World → Prop}
/-- a slice, opened: nil, or a row in a block -/
theorem G.slice {m : Bool} {e : Nat} {v : Value} {len : Nat} {cs : List Value} (h0 : ∀ a, v = .slice a 0 0 → len = 0 → cs = [] → G w0 n L hs F k)
    (h1 : ∀ b T off cap pre post, v = .slice (some ⟨b, off, none⟩) len cap → pre.length = off → cs.length = len * e → (cap - len) * e ≤ post.length → len ≤ cap →
      G w0 n L (cel m b T (pre ++ cs ++ post) :: hs) F k) : G w0 n L (sl m e v len cs :: hs) F k := fun a w s => by
  obtain ⟨r, hr, r1, r2, hok, he, hsl, hF⟩ := s.holds
  rcases hsl with ⟨a0, hv, hl, hc⟩ | ⟨b, T, off, cap, pre, post, hv, h1', h2, h3, h4, hcel⟩
  · exact h0 a0 hv hl hc a w ⟨s.size, s.defers, s.env, s.same, r2, Res.on_right hok (he ▸ hr), hF⟩
  · exact h1 b T off cap pre post hv h1' h2 h3 h4 a w ⟨s.size, s.defers, s.env, s.same, r, hr, r1, r2, hok, he, hcel, hF⟩
/-- what a slice is, its memory left closed -/
theorem sl_val {m : Bool} {e : Nat} {v : Value} {len : Nat} {cs : List Value} {r : Res} (h : sl m e v len cs r) : ∃ a cap, v = .slice a len cap ∧ len ≤ cap := by
  rcases h with ⟨a0, hv, hl, hc⟩ | ⟨b, T, off, cap, pre, post, hv, h1', h2, h3, h4, hcel⟩
  · subst hl; exact ⟨a0, 0, hv, Nat.le_refl _⟩
  · exact ⟨_, cap, hv, h4⟩
theorem G.slnil {m : Bool} {e : Nat} {v : Value} {len : Nat} {cs : List Value} (h0 : v = .slice none 0 0 → len = 0 → cs = [] → G w0 n L (sl m e v len cs :: hs) F k)
    (h1 : ∀ a cap, v = .slice (some a) len cap → len ≤ cap → cs.length = len * e → G w0 n L (sl m e v len cs :: hs) F k) : G w0 n L (sl m e v len cs :: hs) F k := fun ac w s => by
  obtain ⟨r, hr, r1, r2, hok, he, hsl, hF⟩ := s.holds
  have hl := sl_len hsl
  rcases hsl with ⟨a0, hv, hl0, hc⟩ | ⟨b, T, off, cap, pre, post, hv, h1', h2, h3, h4, hcel⟩
  · cases a0 with
    | none => exact h0 hv hl0 hc ac w s
    | some a => subst hl0; exact h1 a 0 hv (Nat.le_refl _) hl ac w s
  · exact h1 _ cap hv h4 hl ac w s
theorem G.slv {m : Bool} {e : Nat} {v : Value} {len : Nat} {cs : List Value} (h : ∀ a cap, v = .slice a len cap → len ≤ cap → cs.length = len * e → G w0 n L (sl m e v len cs :: hs) F k) :
    G w0 n L (sl m e v len cs :: hs) F k := fun ac w s => by
  obtain ⟨r, hr, r1, r2, hok, he, hsl, hF⟩ := s.holds
  obtain ⟨a, cap, hv, hle⟩ := sl_val hsl
  exact h a cap hv hle (sl_len hsl) ac w s
end
/-- what an atom says, kept -/
theorem G.fact {w0 : World} {n : Nat} {L : Env} {hs hs' : List HProp} {F : HProp} {k : Act → World → Prop} {A : HProp} {φ : Prop} (hp : Pick hs A hs') (hφ : ∀ r, A r → φ) (h : φ → G w0 n L hs F k) : G w0 n L hs F k := fun a w s => by
  obtain ⟨r, hr, hh⟩ := s.holds
  obtain ⟨r1, r2, _, _, ha, _⟩ := hp.to r hh
  exact h (hφ _ ha) a w s
theorem GX.fact {P : Program} {w0 : World} {n : Nat} {L : Env} {hs hs' R : List HProp} {F : HProp} {ops : Array Oper} {Q : Exit → Act → World → Prop} {o : Ord} {A : HProp} {φ : Prop} (hp : Pick hs A hs') (hφ : ∀ r, A r → φ) (h : φ → GX P w0 n L hs F R ops Q o) : GX P w0 n L hs F R ops Q o :=
  fun a w s => G.fact (k := fun a w => wpOrd P ops Q (fun w => Holds w (Hs R emp)) o a w) hp hφ (fun hf a w s => h hf a w s) a w s
theorem GO.fact {P : Program} {w0 : World} {n : Nat} {L : Env} {hs hs' R : List HProp} {F : HProp} {ops : Array Oper} {Q : Exit → Act → World → Prop} {o : Ord} {A : HProp} {φ : Prop} (hp : Pick hs A hs') (hφ : ∀ r, A r → φ) (h : φ → GO P w0 n L hs F R ops Q o) : GO P w0 n L hs F R ops Q o :=
  fun a w s hS => G.fact (k := fun a w => Holds w (Hs R emp) → wpOrd P ops Q (fun w => Holds w (Hs R emp)) o a w) hp hφ (fun hf a w s hS => h hf a w s hS) a w s hS
theorem sl_cell {m : Bool} {k : Nat} {v : Value} {n : Nat} {cs : List Value} : ∀ r, sl m k v n cs r → isCell v = true := fun r h => by
  obtain ⟨a, cap, hv, _⟩ := sl_val h
  subst hv; rfl
theorem GX.fold {P : Program} {w0 : World} {n : Nat} {L : Env} {hs m R : List HProp} {F : HProp} {ops : Array Oper} {Q : Exit → Act → World → Prop} {o : Ord} {A : HProp} (h : Ent hs A m) (g : GX P w0 n L (A :: m) F R ops Q o) : GX P w0 n L hs F R ops Q o := GX.imp (hs' := A :: m) (fun r hr => h F r hr) g
theorem GO.fold {P : Program} {w0 : World} {n : Nat} {L : Env} {hs m R : List HProp} {F : HProp} {ops : Array Oper} {Q : Exit → Act → World → Prop} {o : Ord} {A : HProp} (h : Ent hs A m) (g : GO P w0 n L (A :: m) F R ops Q o) : GO P w0 n L hs F R ops Q o := GO.imp (hs' := A :: m) (fun r hr => h F r hr) g
theorem sl_row {m : Bool} {k : Nat} {b n : Nat} {T : TypeId} {cs : List Value} (hc : cs.length = n * k) : ∀ r, cel m b T cs r → sl m k (.slice (some ⟨b, 0, none⟩) n n) n cs r := fun r h =>
  .inr ⟨b, T, 0, n, [], [], rfl, rfl, hc, by simp, Nat.le_refl n, by simpa using h⟩
section
variable {P : Program} {w : World}
theorem sl_read {m : Bool} {k : Nat} {v : Value} {n : Nat} {cs : List Value} (h : Holds w (sl m k v n cs)) {j : Nat} (hj : j ≤ n) (size : Nat) (hk : size = k) :
    (Builtin.firstCells size j v).run P w = .ok (cs.take (j * k)).toArray w := by
  subst hk
  obtain ⟨r, hr, h | ⟨b, T, off, cap, pre, post, hv, h1, h2, h3, h4, hcel⟩⟩ := h
  · obtain ⟨a, rfl, rfl, rfl⟩ := h
    have hj0 : j = 0 := by omega
    subst hj0
    cases a <;> simp [Builtin.firstCells, Sem.run_pure, loadCells, loadCellsFrom]
  · subst hv
    have hc : Holds w (cel m b T (pre ++ cs ++ post)) := ⟨r, hr, hcel⟩
    have hl : j * size ≤ n * size := Nat.mul_le_mul_right _ hj
    have hlen : (cs.take (j * size)).length = j * size := by rw [List.length_take, h2]; omega
    refine run_loadCells (cs := cs.take (j * size)) hlen ?_
    intro i u hi
    refine hc.cell ?_
    have hi' : cs[i]? = some u ∧ i < j * size := by
      rw [List.getElem?_take] at hi
      split at hi
      · exact ⟨hi, by assumption⟩
      · cases hi
    rw [List.append_assoc, List.getElem?_append_right (by omega), show off + i - pre.length = i by omega, List.getElem?_append_left (by rw [h2]; omega)]
    exact hi'.1
theorem Holds.setCells {b : Nat} {T : TypeId} {F : HProp} : ∀ (ds : List Value) (w : World) (vs : List Value) (off : Nat), Holds w (star (Sl.cel true b T vs) F) →
    Holds (w.setCells b off ds) (star (Sl.cel true b T (setL vs off ds)) F)
  | [], w, vs, off, h => h
  | d :: ds, w, vs, off, h => Holds.setCells ds (w.setCell ⟨b, off, none⟩ d) (vs.set off d) (off + 1) (h.setCell off d)
theorem Same.setCells (b : Nat) : ∀ (ds : List Value) (w : World) (off : Nat), Same w (w.setCells b off ds)
  | [], w, off => Same.refl w
  | d :: ds, w, off => Same.trans (b := w.setCell ⟨b, off, none⟩ d) ⟨rfl, rfl, rfl, by simp [World.setCell]⟩ (Same.setCells b ds _ (off + 1))
theorem setL_mid : ∀ (ds xs ys zs : List Value), ys.length = ds.length → setL (xs ++ ys ++ zs) xs.length ds = xs ++ ds ++ zs
  | [], xs, ys, zs, h => by have : ys = [] := List.eq_nil_of_length_eq_zero h; subst this; rfl
  | d :: ds, xs, [], zs, h => by cases h
  | d :: ds, xs, y :: ys, zs, h => by
    have e : (xs ++ y :: ys ++ zs).set xs.length d = (xs ++ [d]) ++ ys ++ zs := by simp
    show setL ((xs ++ y :: ys ++ zs).set xs.length d) (xs.length + 1) ds = _
    rw [e, show xs.length + 1 = (xs ++ [d]).length by simp, setL_mid ds (xs ++ [d]) ys zs (by simpa using h)]
    simp
/-- so many bytes may be asked for -/
def Room (x : Nat) : Prop := x ≤ 140737488355328
theorem room_le {x : Nat} (h : x ≤ 100000000000) : Room x := Nat.le_trans h (by decide)
theorem room_int {n bytes : Nat} (h : Room (n * bytes)) (hb : (bytes == 0) = false) : (n : Int) ≤ 9223372036854775807 := by
  unfold Room at h
  have hb1 : 1 ≤ bytes := by have : bytes ≠ 0 := by simpa using hb
                             omega
  have : n ≤ n * bytes := Nat.le_mul_of_pos_right _ hb1
  omega
/-- append: a slice that is had alone, and whatever is read -/
theorem run_append {kk : Nat} {v x : Value} {n j : Nat} {cs ds : List Value} {F : HProp} {t t2 ty elem bytes : Nat} {z : Value} {i : TypeInfo}
    (hu : P.underlying t = some (.slice elem)) (hi : P.info? elem = some i) (hz : i.zero = some z) (hk : i.size = kk) (hby : i.bytes = bytes) (hb0 : (bytes == 0) = false) (hzs : z.cells.size = kk)
    (hs : Src P i.size t2 x j ds w) (h : Holds w (star (sl true kk v n cs) F)) (hroom : Room ((n + j) * bytes)) :
    ∃ v' w', (Builtin.append_ #[t, t2] ty #[v, x]).run P w = .ok v' w' ∧ Same w w' ∧ Holds w' (star (sl true kk v' (n + j) (cs ++ ds)) F) := by
  subst hk; subst hby
  obtain ⟨a, cap, hv, hle⟩ : ∃ a cap, v = .slice a n cap ∧ n ≤ cap := by obtain ⟨r, _, h'⟩ := h.left; exact sl_val h'
  subst hv
  have hlen1 : cs.length = n * i.size := by obtain ⟨r, _, h'⟩ := h.left; exact sl_len h'
  have hlen2 : ds.length = j * i.size := hs.newsLen
  by_cases hfit : n + j ≤ cap
  · -- there is room
    · obtain ⟨r, hr, r1, r2, hok, he, hs1, hF⟩ := h
      rcases hs1 with ⟨a0, h1, h2, h3⟩ | ⟨b, T, off, cap', pre, post, hv', h1, h2, h3, h4, hcel⟩
      · simp only [Value.slice.injEq] at h1
        obtain ⟨rfl, _, rfl⟩ := h1
        subst h2
        have hj : j = 0 := by omega
        subst hj; subst h3
        have hds : ds = [] := List.eq_nil_of_length_eq_zero (by simpa using hlen2)
        subst hds
        exact ⟨_, w, run_append_nothing w t t2 ty elem i hu hi a 0 0 (Nat.le_refl _) x hs, Same.refl w, r, hr, r1, r2, hok, he, .inl ⟨a, rfl, rfl, rfl⟩, hF⟩
      · simp only [Value.slice.injEq, true_and] at hv'
        obtain ⟨rfl, rfl⟩ := hv'
        have hc : Holds w (star (cel true b T (pre ++ cs ++ post)) F) := ⟨r, hr, r1, r2, hok, he, hcel, hF⟩
        have hjk : j * i.size ≤ post.length := Nat.le_trans (Nat.mul_le_mul_right _ (by omega)) h3
        have hin : ∀ q, q < ds.length → off + n * i.size + q < (pre ++ cs ++ post).length := by intro q hq; simp; omega
        refine ⟨_, _, run_append_room_src w t t2 ty elem i hu hi b off n cap x j ds hs hfit ?_ ?_, Same.setCells b ds w _, ?_⟩
        · intro q hq
          rw [hc.left.cell (v := (pre ++ cs ++ post)[off + n * i.size + q]'(hin q hq)) (by simp [hin q hq])]; rfl
        · intro q hq; exact hc.left.free _
        · have e5 : setL (pre ++ cs ++ post) (off + n * i.size) ds = pre ++ (cs ++ ds) ++ post.drop (j * i.size) := by
            have hl : (pre ++ cs).length = off + n * i.size := by simp; omega
            have e6 : pre ++ cs ++ post = (pre ++ cs) ++ post.take (j * i.size) ++ post.drop (j * i.size) := by simp
            rw [e6, ← hl, setL_mid ds (pre ++ cs) (post.take (j * i.size)) (post.drop (j * i.size)) (by rw [List.length_take]; omega)]
            simp
          have := hc.setCells ds w _ (off + n * i.size)
          rw [e5] at this
          refine this.mono fun _ => star_mono (fun r hr => .inr ⟨b, T, off, cap, pre, post.drop (j * i.size), rfl, h1, ?_, ?_, hfit, hr⟩) (fun _ h => h)
          · simp [hlen1, hlen2, Nat.add_mul]
          · rw [List.length_drop, show cap - (n + j) = (cap - n) - j by omega, Nat.sub_mul]; omega
  · -- it grows
    have hlt : cap < n + j := by omega
    have hd : Holds w.drew (star (sl true i.size (.slice a n cap) n cs) F) := by obtain ⟨r, hr, hh⟩ := h; exact ⟨r, hr, hh⟩
    have hread1' : (Builtin.firstCells i.size n (.slice a n cap)).run P w.drew = .ok cs.toArray w.drew := by
      have := sl_read (P := P) hd.left (Nat.le_refl n) i.size rfl
      rwa [List.take_of_length_le (by omega)] at this
    have hrun := run_append_grow_src w t t2 ty elem i z hu hi hz a n cap cs hread1' x j ds hs hlt (room_int hroom hb0) (growslice_fits hlt hroom)
    have hnc : n + j ≤ grownCap w (n + j) cap elem := Nat.le_add_right _ _
    generalize grownCap w (n + j) cap elem = nc at hrun hnc
    have hzl : (Builtin.zeroCells z.cells (nc - (n + j))).toList.length = (nc - (n + j)) * i.size := by simp [Builtin.zeroCells, hzs]
    refine ⟨_, _, hrun, ⟨rfl, rfl, rfl, by simp⟩, ?_⟩
    have ea : (cs ++ ds).toArray ++ Builtin.zeroCells z.cells (nc - (n + j)) = (cs ++ ds ++ (Builtin.zeroCells z.cells (nc - (n + j))).toList).toArray := by
      apply Array.ext'; simp
    rw [ea]
    have := hd.newCel (T := elem) (vs := cs ++ ds ++ (Builtin.zeroCells z.cells (nc - (n + j))).toList)
    have h2 := Holds.drops (l := [cel true w.heap.size elem (cs ++ ds ++ (Builtin.zeroCells z.cells (nc - (n + j))).toList)]) (m := [sl true i.size (.slice a n cap) n cs]) (F := F) this
    refine Holds.mono h2 fun _ => star_mono (fun r hr => .inr ⟨w.heap.size, elem, 0, nc, [], (Builtin.zeroCells z.cells (nc - (n + j))).toList, rfl, rfl, ?_, Nat.le_of_eq hzl.symm, hnc, by simpa using hr⟩) (fun _ h => h)
    simp [hlen1, hlen2, Nat.add_mul]
theorem Src.of_sl {m : Bool} {k size : Nat} {x : Value} {j : Nat} {ds : List Value} {t2 e2 : Nat} (hu2 : P.underlying t2 = some (.slice e2)) (hk : size = k) (h : Holds w (sl m k x j ds)) (hc : ds.all isCell = true) : Src P size t2 x j ds w := by
  subst hk
  obtain ⟨a, cap, hv, hle⟩ : ∃ a cap, x = .slice a j cap ∧ j ≤ cap := by obtain ⟨r, _, h'⟩ := h; exact sl_val h'
  have hlen : ds.length = j * size := by obtain ⟨r, _, h'⟩ := h; exact sl_len h'
  have hd : Holds w.drew (sl m size x j ds) := by obtain ⟨r, hr, hh⟩ := h; exact ⟨r, hr, hh⟩
  refine ⟨.inl ⟨e2, hu2⟩, fun w' => by subst hv; rfl, ?_, ?_, hlen, by simpa using hc⟩
  · have := sl_read (P := P) h (Nat.le_refl j) size rfl
    rwa [List.take_of_length_le (by omega)] at this
  · have := sl_read (P := P) hd (Nat.le_refl j) size rfl
    rwa [List.take_of_length_le (by omega)] at this
end
section
variable {P : Program} {L : Env} {hs : List HProp} {dst : Option Tmp} {ty : TypeId} {pos : String} {aft : Array Edge} {g : Option (Nat × Bool)}
theorem append_op {x y : Operand} {v u : Value} {t t2 ty' : Nat} {ρ : Operand → Value} {w w' : World} {v' : Value} (hx : ρ x = v) (hy : ρ y = u) (h : ∀ ty, (Builtin.append_ #[t, t2] ty #[v, u]).run P w = .ok v' w') :
    (execOp ρ ⟨dst, .call ⟨.builtin .append, #[x, y], #[t, t2]⟩, ty', pos, aft, g⟩).run P w = .ok (.value v') w' := by
  simp only [execOp, resolve, invoke, builtin, List.map_toArray, List.map_cons, List.map_nil, hx, hy, Sem.run_bind, Sem.run_pure, Result.andThen_ok, h]
/-- append(s, t...): s had alone, t read -/
theorem OpC.append {m : Bool} {kk n j t t2 elem elem2 bytes : Nat} {x y : Operand} {v u : Value} {cs ds : List Value} {z : Value} {i : TypeInfo} {hs' hs'' : List HProp}
    (hu : P.underlying t = some (.slice elem)) (hi : P.info? elem = some i) (hz : i.zero = some z) (hk : i.size = kk) (hby : i.bytes = bytes) (hb0 : (bytes == 0) = false) (hzs : z.cells.size = kk)
    (hu2 : P.underlying t2 = some (.slice elem2)) (hx : L.ev x = some v) (hy : L.ev y = some u) (hp : Pick hs (sl true kk v n cs) hs') (hp2 : Pick hs' (sl m kk u j ds) hs'') (hc : ds.all isCell = true) (hroom : Room ((n + j) * bytes)) :
    OpC P ⟨dst, .call ⟨.builtin .append, #[x, y], #[t, t2]⟩, ty, pos, aft, g⟩ L hs (X := Value) (fun x => x) (fun v' => sl true kk v' (n + j) (cs ++ ds) :: hs') := .of_run fun ρ w F hev hh => by
  have h := hh.mono hp.to
  have hs2 : Src P i.size t2 u j ds w := Src.of_sl hu2 hk (h.right.mono hp2.to).left hc
  have hall : ∀ ty, ∃ v' w', (Builtin.append_ #[t, t2] ty #[v, u]).run P w = .ok v' w' ∧ Same w w' ∧ Holds w' (star (sl true kk v' (n + j) (cs ++ ds)) (Hs hs' F)) := fun ty => run_append hu hi hz hk hby hb0 hzs hs2 h hroom
  obtain ⟨v', w', hr, hsame, hh'⟩ := hall ty
  exact ⟨v', w', append_op (hev x _ hx) (hev y _ hy) (fun ty' => hr), hsame, hh'⟩
end
/-- append, its result in other words -/
theorem OpC.appendE {P : Program} {L : Env} {hs : List HProp} {dst : Option Tmp} {ty : TypeId} {pos : String} {aft : Array Edge} {g : Option (Nat × Bool)} {m : Bool} {kk n j t t2 elem elem2 bytes nj : Nat} {x y : Operand} {v u : Value} {cs ds rs : List Value} {z : Value} {i : TypeInfo} {hs' hs'' : List HProp}
    (hu : P.underlying t = some (.slice elem)) (hi : P.info? elem = some i) (hz : i.zero = some z) (hk : i.size = kk) (hby : i.bytes = bytes) (hb0 : (bytes == 0) = false) (hzs : z.cells.size = kk)
    (hu2 : P.underlying t2 = some (.slice elem2)) (hx : L.ev x = some v) (hy : L.ev y = some u) (hp : Pick hs (sl true kk v n cs) hs') (hp2 : Pick hs' (sl m kk u j ds) hs'') (hc : ds.all isCell = true) (hroom : Room ((n + j) * bytes))
    (hn : n + j = nj) (hr : cs ++ ds = rs) :
    OpC P ⟨dst, .call ⟨.builtin .append, #[x, y], #[t, t2]⟩, ty, pos, aft, g⟩ L hs (X := Value) (fun x => x) (fun v' => sl true kk v' nj rs :: hs') := by
  subst hn; subst hr
  exact OpC.append hu hi hz hk hby hb0 hzs hu2 hx hy hp hp2 hc hroom
theorem OpC.build0 {P : Program} {L : Env} {hs : List HProp} {dst : Option Tmp} {ty : TypeId} {pos : String} {aft : Array Edge} {g : Option (Nat × Bool)} {t elem size k : Nat} (hu : ∀ w, (underlying t).run P w = .ok (.slice elem) w) (hsz : ∀ w, (sizeOf elem).run P w = .ok size w) :
    OpC P ⟨dst, .buildSlice t 0 #[], ty, pos, aft, g⟩ L hs (X := Value) (fun x => x) (fun v => sl true k v 0 [] :: hs) := .of_run fun ρ w F hev hh => by
  refine ⟨.slice (some ⟨w.heap.size, 0, none⟩) 0 0, { w with heap := w.heap.push (.cells #[] elem) }, ?_, Same.push _ _, ?_⟩
  · have h1 : ¬ (0 * size > 2 ^ 24) := by simp
    simp only [execOp, Instr.buildSlice, Sem.run_bind, hu w, hsz w, Result.andThen_ok, Sem.run_pure, newRow, newObj]
    simp only [Instr.fill, Sem.run_pure, Result.andThen_ok, Sem.run_bind, Nat.zero_mul, if_true, Array.map_empty, List.map_toArray, List.map_nil, Sem.run]
    have e : (Array.range 0) = #[] := rfl
    simp [Sem.run, e]
  · exact hh.new.mono fun _ => star_mono (fun _ _ => sl_empty) (fun _ h => h)
/-! ### shared from now on -/
section
variable {w0 : World} {n : Nat} {L : Env} {hs : List HProp} {F : HProp} {k : Act → World → Prop}
theorem Holds.shareCel {w : World} {b : Nat} {T : TypeId} {vs : List Value} {A : HProp} (h : Holds w (star (Sl.cel true b T vs) A)) : Holds w (star (Sl.cel false b T vs) A) := by
  have h1 := h.mono (fun _ => star_mono (fun _ => cel_own) (fun _ h => h))
  exact h1.share.mono fun _ => star_mono (fun _ h => ⟨(0, 0), (fun e => by cases e), h⟩) (fun _ h => h)
theorem Holds.shareSl {w : World} {e : Nat} {v : Value} {len : Nat} {cs : List Value} {A : HProp} (h : Holds w (star (sl true e v len cs) A)) : Holds w (star (sl false e v len cs) A) := by
  obtain ⟨r, hr, r1, r2, hok, he, hs, hF⟩ := h
  rcases hs with h0 | ⟨b, T, off, cap, pre, post, h1, h2, h3, h4, h5, hc⟩
  · exact ⟨r, hr, r1, r2, hok, he, .inl h0, hF⟩
  · have := Holds.shareCel (w := w) (A := A) (b := b) (T := T) (vs := pre ++ cs ++ post) ⟨r, hr, r1, r2, hok, he, hc, hF⟩
    exact this.mono fun _ => star_mono (fun r hr => .inr ⟨b, T, off, cap, pre, post, h1, h2, h3, h4, h5, hr⟩) (fun _ h => h)
theorem G.share {e : Nat} {v : Value} {len : Nat} {cs : List Value} {hs' : List HProp} (hp : Pick hs (sl true e v len cs) hs') (h : G w0 n L (sl false e v len cs :: hs') F k) : G w0 n L hs F k := fun a w s =>
  h a w ⟨s.size, s.defers, s.env, s.same, (s.holds.mono hp.to).shareSl⟩
theorem sl_dup {e : Nat} {v : Value} {len : Nat} {cs : List Value} {r : Res} (h : sl false e v len cs r) : star (sl false e v len cs) (sl false e v len cs) r := by
  rcases h with h0 | ⟨b, T, off, cap, pre, post, h1, h2, h3, h4, h5, hc⟩
  · exact star_mono (fun _ _ => .inl h0) (fun _ _ => .inl h0) (star_emp (A := emp) (r := r) trivial)
  · exact star_mono (fun r hr => .inr ⟨b, T, off, cap, pre, post, h1, h2, h3, h4, h5, hr⟩) (fun r hr => .inr ⟨b, T, off, cap, pre, post, h1, h2, h3, h4, h5, hr⟩) (cel_dup hc)
end
end Go.Sl
