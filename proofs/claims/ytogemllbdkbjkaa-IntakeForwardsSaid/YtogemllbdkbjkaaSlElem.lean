/- Elements of slices, read and written where the slice stays closed. -/
import Derived.Test.YtogemllbdkbjkaaSlArr
set_option linter.unusedVariables false
set_option linter.unusedSimpArgs false
namespace Go.Sl
open Go
/-- the address of a slice's cell -/
abbrev eptr (a : Option Addr) (off : Nat) : Value := .pointer (a.map (·.add off))
theorem sl_open {m : Bool} {k n cap off : Nat} {a : Option Addr} {cs : List Value} {r : Res} (h : sl m k (.slice a n cap) n cs r) (ho : off < cs.length) :
    ∃ b T o pre post, a = some ⟨b, o, none⟩ ∧ pre.length = o ∧ cs.length = n * k ∧ (cap - n) * k ≤ post.length ∧ n ≤ cap ∧ cel m b T (pre ++ cs ++ post) r := by
  rcases h with ⟨a', _, hn, hc⟩ | ⟨b, T, o, cap', pre, post, hv, hp, hcs, hpo, hle, hcel⟩
  · subst hc; simp at ho
  · simp only [Value.slice.injEq, true_and] at hv
    obtain ⟨rfl, rfl⟩ := hv
    exact ⟨b, T, o, pre, post, rfl, hp, hcs, hpo, hle, hcel⟩
theorem sl_cap {m : Bool} {k n cap : Nat} {a : Option Addr} {cs : List Value} : ∀ r, sl m k (.slice a n cap) n cs r → n ≤ cap := fun r h => by
  obtain ⟨a', cap', hv, hle⟩ := sl_val h
  cases hv; exact hle
theorem addr_add (b o i : Nat) : (⟨b, o, none⟩ : Addr).add i = ⟨b, o + i, none⟩ := by
  unfold Addr.add; split
  · rename_i e; simp [e]
  · rfl
section
variable {P : Program} {L : Env} {hs hs' : List HProp} {dst : Option Tmp} {ty : TypeId} {pos : String} {aft : Array Edge} {g : Option (Nat × Bool)}
theorem Yld.indexE {m : Bool} {x i : Operand} {t : TypeId} {elem k len cap : Nat} {a : Option Addr} {cs : List Value} {kk : IntKind} {j : Int} (hu : ∀ w, (underlying t).run P w = .ok (.slice elem) w) (hz : ∀ w, (sizeOf elem).run P w = .ok k w)
    (hx : L.ev x = some (.slice a len cap)) (hi : L.ev i = some (.int kk j)) (hp : Pick hs (Sl.sl m k (.slice a len cap) len cs) hs') (hk : 0 < k) (h0 : 0 ≤ j) (h1 : j < len) :
    Yld P ⟨dst, .indexAddr t x i, ty, pos, aft, g⟩ L hs (eptr a (j.toNat * k)) := by
  intro ρ w F hev hh
  obtain ⟨r, hr, r1, r2, hok, rfl, hsl, hF⟩ := hh.mono hp.to
  have hl := sl_len hsl
  have hpos : 0 < cs.length := by rw [hl]; exact Nat.mul_pos (by omega) hk
  obtain ⟨b, T, o, pre, post, rfl, _⟩ := sl_open hsl hpos
  have := Yld.indexAddr (P := P) (L := L) (hs := hs) (dst := dst) (ty := ty) (pos := pos) (aft := aft) (g := g) hu hz hx hi h0 h1 ρ w F hev hh
  rw [this]; simp [eptr, addr_add]
theorem Yld.fieldE {m : Bool} {x : Operand} {s : TypeId} {f q k off len cap : Nat} {a : Option Addr} {cs : List Value} (hf : FieldOff P s f q) (hx : L.ev x = some (eptr a off)) (hp : Pick hs (Sl.sl m k (.slice a len cap) len cs) hs') (ho : off < cs.length) :
    Yld P ⟨dst, .fieldAddr s x f, ty, pos, aft, g⟩ L hs (eptr a (off + q)) := by
  intro ρ w F hev hh
  obtain ⟨r, hr, r1, r2, hok, rfl, hsl, hF⟩ := hh.mono hp.to
  obtain ⟨b, T, o, pre, post, rfl, _⟩ := sl_open hsl ho
  simp only [eptr, Option.map_some, addr_add] at hx ⊢
  have := Yld.fieldAddr (P := P) (L := L) (hs := hs) (dst := dst) (ty := ty) (pos := pos) (aft := aft) (g := g) hf hx ρ w F hev hh
  rw [this, Nat.add_assoc]
theorem Yld.loadE {m : Bool} {x : Operand} {t : TypeId} {k off len cap : Nat} {a : Option Addr} {cs : List Value} {v : Value} (ht : ∀ w, (isAgg t).run P w = .ok false w) (hx : L.ev x = some (eptr a off))
    (hp : Pick hs (Sl.sl m k (.slice a len cap) len cs) hs') (hv : cs[off]? = some v) : Yld P ⟨dst, .load t x, ty, pos, aft, g⟩ L hs v := by
  intro ρ w F hev hh
  have hh' := hh.mono hp.to
  obtain ⟨r, hr, r1, r2, hok, rfl, hsl, hF⟩ := hh'
  have ho : off < cs.length := (List.getElem?_eq_some_iff.1 hv).1
  obtain ⟨b, T, o, pre, post, rfl, hpre, _, _, _, hcel⟩ := sl_open hsl ho
  simp only [eptr, Option.map_some, addr_add] at hx
  have h2 : Holds w (Hs [cel m b T (pre ++ cs ++ post)] (Hs hs' F)) := ⟨_, hr, r1, r2, hok, rfl, hcel, hF⟩
  refine Yld.load (hs := [cel m b T (pre ++ cs ++ post)]) hx ht .here ?_ ρ w (Hs hs' F) hev h2
  rw [List.append_assoc, List.getElem?_append_right (by omega), show o + off - pre.length = off by omega, List.getElem?_append_left ho]
  exact hv
theorem Yld.loadAggE {m : Bool} {x : Operand} {t : TypeId} {k kk off len cap : Nat} {a : Option Addr} {cs us : List Value} (ht : ∀ w, (isAgg t).run P w = .ok true w) (hz : ∀ w, (sizeOf t).run P w = .ok kk w) (hx : L.ev x = some (eptr a off))
    (hp : Pick hs (Sl.sl m k (.slice a len cap) len cs) hs') (hk : us.length = kk) (hk0 : 0 < kk) (hv : (cs.drop off).take kk = us) : Yld P ⟨dst, .load t x, ty, pos, aft, g⟩ L hs (.agg us.toArray) := by
  intro ρ w F hev hh
  have hh' := hh.mono hp.to
  obtain ⟨r, hr, r1, r2, hok, rfl, hsl, hF⟩ := hh'
  have ho : off < cs.length := by
    rcases Nat.lt_or_ge off cs.length with h | h
    · exact h
    · rw [List.drop_eq_nil_of_le h] at hv; simp at hv; subst hv; simp at hk; omega
  obtain ⟨b, T, o, pre, post, rfl, hpre, _, _, _, hcel⟩ := sl_open hsl ho
  simp only [eptr, Option.map_some, addr_add] at hx
  have h2 : Holds w (Hs [cel m b T (pre ++ cs ++ post)] (Hs hs' F)) := ⟨_, hr, r1, r2, hok, rfl, hcel, hF⟩
  refine Yld.loadAgg (hs := [cel m b T (pre ++ cs ++ post)]) hx ht hz .here hk ?_ ρ w (Hs hs' F) hev h2
  intro j v hj
  have hj2 : j < us.length := (List.getElem?_eq_some_iff.1 hj).1
  rw [← hv, List.getElem?_take, if_pos (by omega), List.getElem?_drop] at hj
  have ho2 : off + j < cs.length := (List.getElem?_eq_some_iff.1 hj).1
  rw [List.append_assoc, List.getElem?_append_right (by omega), show o + off + j - pre.length = off + j by omega, List.getElem?_append_left ho2]
  exact hj
theorem sl_shut {m : Bool} {k n cap b o : Nat} {T : TypeId} {cs pre post : List Value} (hp : pre.length = o) (hcs : cs.length = n * k) (hpo : (cap - n) * k ≤ post.length) (hle : n ≤ cap) {r : Res} (h : cel m b T (pre ++ cs ++ post) r) :
    sl m k (.slice (some ⟨b, o, none⟩) n cap) n cs r := .inr ⟨b, T, o, cap, pre, post, rfl, hp, hcs, hpo, hle, h⟩
theorem set_mid {pre cs post : List Value} {off : Nat} {v : Value} (h : off < cs.length) : (pre ++ cs ++ post).set (pre.length + off) v = pre ++ cs.set off v ++ post := by
  rw [List.append_assoc, List.set_append_right _ _ (by omega), show pre.length + off - pre.length = off by omega, List.set_append_left _ _ h, List.append_assoc]
theorem OpC.storeE {t : TypeId} {x y : Operand} {k off len cap : Nat} {a : Option Addr} {cs : List Value} {v : Value} (hsz : ∀ w, (sizeOf t).run P w = .ok 1 w) (hx : L.ev x = some (eptr a off)) (hy : L.ev y = some v) (hc : isCell v = true)
    (hp : Pick hs (Sl.sl true k (.slice a len cap) len cs) hs') (ho : off < cs.length) :
    OpC P ⟨dst, .store t x y, ty, pos, aft, g⟩ L hs (X := Unit) (fun _ => undef) (fun _ => Sl.sl true k (.slice a len cap) len (cs.set off v) :: hs') := by
  intro ac w F K Q hev hh hK
  obtain ⟨r, hr, r1, r2, hok, rfl, hsl, hF⟩ := hh.mono hp.to
  obtain ⟨b, T, o, pre, post, rfl, hpre, hl, hpo, hle, hcel⟩ := sl_open hsl ho
  simp only [eptr, Option.map_some, addr_add] at hx
  have h2 : Holds w (Hs [cel true b T (pre ++ cs ++ post)] (Hs hs' F)) := ⟨_, hr, r1, r2, hok, rfl, hcel, hF⟩
  have hs2 : OpC P ⟨dst, .store t x y, ty, pos, aft, g⟩ L [cel true b T (pre ++ cs ++ post)] (X := Unit) (fun _ => undef) (fun _ => [cel true b T (pre ++ cs.set off v ++ post)]) :=
    OpC.store hsz hx hy hc .here (by rw [← hpre]; exact set_mid ho) (by simp; omega)
  refine hs2 ac w (Hs hs' F) K Q hev h2 fun _ w' hs3 hh3 => hK () w' hs3 ?_
  exact hh3.mono fun _ => star_mono (fun _ h => sl_shut hpre (by simpa using hl) hpo hle h) (fun _ h => h)
end
section
variable {P : Program} {w0 : World} {n : Nat} {L : Env} {hs R : List HProp} {F : HProp} {ops : Array Oper} {Q : Exit → Act → World → Prop} {o : Ord}
theorem GO.as {t : Nat} {u v : Value} (hc : L.get t = some u) (huv : u = v) (h : GO P w0 n ((t, v) :: L) hs F R ops Q o) : GO P w0 n L hs F R ops Q o := fun a w s hS =>
  G.as (k := fun a w => Holds w (Hs R emp) → wpOrd P ops Q (fun w => Holds w (Hs R emp)) o a w) hc huv (fun a w s hS => h a w s hS) a w s hS
theorem GX.as {t : Nat} {u v : Value} (hc : L.get t = some u) (huv : u = v) (h : GX P w0 n ((t, v) :: L) hs F R ops Q o) : GX P w0 n L hs F R ops Q o := fun a w s =>
  G.as (k := fun a w => wpOrd P ops Q (fun w => Holds w (Hs R emp)) o a w) hc huv (fun a w s => h a w s) a w s
variable {op : Op} {ty : TypeId} {pos : String} {aft : Array Edge} {i : Nat} {r : Ord}
theorem GO.op0 {X : Type} {val : X → Value} {post : X → List HProp} {rs : X → List HProp} (ho : ops[i]? = some ⟨none, op, ty, pos, aft, none⟩) (hy : OpC P ⟨none, op, ty, pos, aft, none⟩ L hs val post)
    (hp : ∀ x, Picks (post x) R (rs x)) (h : ∀ x, GO P w0 n L (post x) F R ops Q r) : GO P w0 n L hs F R ops Q (.loud i true r) := fun a w s hS =>
  wpOp_plain ho rfl (hy a w F _ Q s.evs s.holds fun x w' hs' hh' => ⟨fun _ => (hp x).holds hh', h x _ _ (s.heap hs' hh') ((hp x).holds hh')⟩)
theorem Ent.unlift {φ : Prop} {A : HProp} {l : List HProp} (hm : Mono A) : Ent (Sl.star (Sl.lift φ) A :: l) A l := fun _ _ h => star_mono (fun _ hq => (star_unlift hm hq).2) (fun _ h => h) h
theorem Ents.holds {w : World} {rest : List HProp} (hp : Ents hs R rest) (h : Holds w (Hs hs F)) : Holds w (Hs R emp) := (h.mono hp.to).mono (fun _ h => Hs.weak _ h)
theorem GO.opcE {d : Nat} {X : Type} {val : X → Value} {post : X → List HProp} {rs : X → List HProp} (ho : ops[i]? = some ⟨some d, op, ty, pos, aft, none⟩) (hd : d < n) (hy : OpC P ⟨some d, op, ty, pos, aft, none⟩ L hs val post)
    (hp : ∀ x, Ents (post x) R (rs x)) (h : ∀ x, GO P w0 n ((d, val x) :: L) (post x) F R ops Q r) : GO P w0 n L hs F R ops Q (.loud i true r) := fun a w s hS =>
  wpOp_plain ho rfl (hy a w F _ Q s.evs s.holds fun x w' hs' hh' => ⟨fun _ => (hp x).holds hh', h x _ _ (s.put hd _ hs' hh') ((hp x).holds hh')⟩)
theorem GO.opGE {d j t : Nat} {b : Bool} {X : Type} {val : X → Value} {post : X → List HProp} {rs : X → List HProp} (ho : ops[i]? = some ⟨some d, op, ty, pos, aft, some (j, b)⟩) (hd : d < n) (hj : (ops[j]?).bind (·.dst) = some t) (hc : L.get t = some (.bool b))
    (hy : OpC P ⟨some d, op, ty, pos, aft, some (j, b)⟩ L hs val post)
    (hp : ∀ x, Ents (post x) R (rs x)) (h : ∀ x, GO P w0 n ((d, val x) :: L) (post x) F R ops Q r) : GO P w0 n L hs F R ops Q (.loud i true r) := fun a w s hS =>
  wpOp_wanted ho (by rw [wanted_of s (o := ⟨some d, op, ty, pos, aft, some (j, b)⟩) rfl hj hc]; simp)
    (hy a w F _ Q s.evs s.holds fun x w' hs' hh' => ⟨fun _ => (hp x).holds hh', h x _ _ (s.put hd _ hs' hh') ((hp x).holds hh')⟩)
theorem GO.two {i j : Nat} {ni nj : Bool} {ri rj : Ord} (h1 : GO P w0 n L hs F R ops Q (.loud i ni ri)) (h2 : GO P w0 n L hs F R ops Q (.loud j nj rj)) : GO P w0 n L hs F R ops Q (.two i ni ri j nj rj) := fun a w s hS => ⟨h1 a w s hS, h2 a w s hS⟩
theorem GX.two {i j : Nat} {ni nj : Bool} {ri rj : Ord} (h1 : GX P w0 n L hs F R ops Q (.loud i ni ri)) (h2 : GX P w0 n L hs F R ops Q (.loud j nj rj)) : GX P w0 n L hs F R ops Q (.two i ni ri j nj rj) := fun a w s => ⟨h1 a w s, h2 a w s⟩
theorem GO.lyld {d : Nat} {v : Value} (ho : ops[i]? = some ⟨some d, op, ty, pos, aft, none⟩) (hd : d < n) (hy : Yld P ⟨some d, op, ty, pos, aft, none⟩ L hs v)
    (h : GO P w0 n ((d, v) :: L) hs F R ops Q r) : GO P w0 n L hs F R ops Q (.loud i true r) := fun a w s hS =>
  wpOp_plain ho rfl (wp_of_yld hy s ⟨fun _ => hS, h _ _ (s.put hd v (Same.refl w) s.holds) hS⟩)
theorem GO.lyldG {d j t : Nat} {b : Bool} {v : Value} (ho : ops[i]? = some ⟨some d, op, ty, pos, aft, some (j, b)⟩) (hd : d < n) (hj : (ops[j]?).bind (·.dst) = some t) (hc : L.get t = some (.bool b)) (hy : Yld P ⟨some d, op, ty, pos, aft, some (j, b)⟩ L hs v)
    (h : GO P w0 n ((d, v) :: L) hs F R ops Q r) : GO P w0 n L hs F R ops Q (.loud i true r) := fun a w s hS =>
  wpOp_wanted ho (by rw [wanted_of s (o := ⟨some d, op, ty, pos, aft, some (j, b)⟩) rfl hj hc]; simp) (wp_of_yld hy s ⟨fun _ => hS, h _ _ (s.put hd v (Same.refl w) s.holds) hS⟩)
end
end Go.Sl
