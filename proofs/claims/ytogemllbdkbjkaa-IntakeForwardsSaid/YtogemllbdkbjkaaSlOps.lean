/- The operations' rules: what each leaves, over the atoms that it reads. -/
import Derived.Test.YtogemllbdkbjkaaSlRegion
import Derived.WalkKit
set_option linter.unusedVariables false
set_option linter.unusedSimpArgs false
namespace Go.Sl
open Go
/-- operation o, where L is known and the atoms hs hold, leaves v and does nothing else -/
def Yld (P : Program) (o : Oper) (L : Env) (hs : List HProp) (v : Value) : Prop :=
  ∀ (ρ : Operand → Value) (w : World) (F : HProp), (∀ x u, L.ev x = some u → ρ x = u) → Holds w (Hs hs F) → (execOp ρ o).run P w = .ok (.value v) w
/-- operation o turns the atoms hs into 'post x' and leaves 'val x', for some x -/
def OpC (P : Program) (o : Oper) (L : Env) (hs : List HProp) {X : Type} (val : X → Value) (post : X → List HProp) : Prop :=
  ∀ (a : Act) (w : World) (F : HProp) (K : Act → World → Prop) (Q : Exit → Act → World → Prop), (∀ x u, L.ev x = some u → a.eval x = u) → Holds w (Hs hs F) →
    (∀ x w', Same w w' → Holds w' (Hs (post x) F) → K (a.put o.dst (val x)) w') → o.wp P a w K Q

/-! ### the walk's goals over them -/
section
variable {P : Program} {w0 : World} {n : Nat} {L : Env} {hs : List HProp} {F : HProp} {Q : Exit → Act → World → Prop} {ops : Array Oper} {rest : List Oper}
variable {op : Op} {ty : TypeId} {pos : String} {aft : Array Edge}
theorem St.evs {a : Act} {w : World} (s : St w0 n L hs F a w) : ∀ x u, L.ev x = some u → a.eval x = u := fun _ _ h => s.eval h
theorem G.region {id : Nat} {l : List Oper} {k : List Code} (h : G w0 n L hs F (wpList P l.toArray (Exit.then (seqs P k Q) Q) l)) :
    G w0 n L hs F (seqs P (.region id l.toArray false :: k) Q) := fun a w s => wp_region_lit (h a w s)
theorem G.done {k : List Code} (h : G w0 n L hs F (seqs P k Q)) : G w0 n L hs F (wpList P ops (Exit.then (seqs P k Q) Q) []) := fun a w s => wpList_nil (h a w s)
theorem wanted_of {a : Act} {w : World} (s : St w0 n L hs F a w) {o : Oper} {j : Nat} {b : Bool} {t : Nat} (hg : o.guard = some (j, b)) (hj : (ops[j]?).bind (·.dst) = some t) {c : Bool}
    (hc : L.get t = some (.bool c)) : Region.wanted o (yielded ops a.tmps) = (c == b) := by
  simp only [Region.wanted, hg, yielded, hj, Option.bind_some, s.env t _ hc]
  cases c <;> cases b <;> rfl
theorem wanted_undef {a : Act} {w : World} (s : St w0 n L hs F a w) {o : Oper} {j : Nat} {b : Bool} {t : Nat} (hg : o.guard = some (j, b)) (hj : (ops[j]?).bind (·.dst) = some t)
    (hc : L.get t = some undef) : Region.wanted o (yielded ops a.tmps) = false := by
  simp only [Region.wanted, hg, yielded, hj, Option.bind_some, s.env t _ hc]
  cases b <;> rfl
theorem wp_of_yld {o : Oper} {v : Value} {a : Act} {w : World} {K : Act → World → Prop} (hy : Yld P o L hs v) (s : St w0 n L hs F a w) (h : K (a.put o.dst v) w) : o.wp P a w K Q := by
  simp only [Oper.wp, hy a.eval w F s.evs s.holds, Oper.upon]; exact h
theorem G.yld {d : Nat} {v : Value} (hd : d < n) (hy : Yld P ⟨some d, op, ty, pos, aft, none⟩ L hs v) (h : G w0 n ((d, v) :: L) hs F (wpList P ops Q rest)) :
    G w0 n L hs F (wpList P ops Q (⟨some d, op, ty, pos, aft, none⟩ :: rest)) := fun a w s =>
  wpList_plain rfl fun K hK => wp_of_yld hy s (hK _ _ (h _ _ (s.put hd v (Same.refl w) s.holds)))
theorem G.yldG {d j t : Nat} {b : Bool} {v : Value} (hd : d < n) (hj : (ops[j]?).bind (·.dst) = some t) (hc : L.get t = some (.bool b))
    (hy : Yld P ⟨some d, op, ty, pos, aft, some (j, b)⟩ L hs v) (h : G w0 n ((d, v) :: L) hs F (wpList P ops Q rest)) :
    G w0 n L hs F (wpList P ops Q (⟨some d, op, ty, pos, aft, some (j, b)⟩ :: rest)) := fun a w s =>
  wpList_step fun K hK => by
    rw [wanted_of s (o := ⟨some d, op, ty, pos, aft, some (j, b)⟩) rfl hj hc]
    simp only [beq_self_eq_true, if_true]
    exact wp_of_yld hy s (hK _ _ (h _ _ (s.put hd v (Same.refl w) s.holds)))
theorem G.skipG {d j t : Nat} {b c : Bool} (hd : d < n) (hj : (ops[j]?).bind (·.dst) = some t) (hc : L.get t = some (.bool c)) (hne : (c == b) = false)
    (h : G w0 n ((d, undef) :: L) hs F (wpList P ops Q rest)) : G w0 n L hs F (wpList P ops Q (⟨some d, op, ty, pos, aft, some (j, b)⟩ :: rest)) := fun a w s =>
  wpList_step fun K hK => by
    rw [wanted_of s (o := ⟨some d, op, ty, pos, aft, some (j, b)⟩) rfl hj hc, hne]
    simp only [Bool.false_eq_true, if_false]
    exact hK _ _ (h _ _ (s.put hd undef (Same.refl w) s.holds))
theorem G.skipU {d j t : Nat} {b : Bool} (hd : d < n) (hj : (ops[j]?).bind (·.dst) = some t) (hc : L.get t = some undef)
    (h : G w0 n ((d, undef) :: L) hs F (wpList P ops Q rest)) : G w0 n L hs F (wpList P ops Q (⟨some d, op, ty, pos, aft, some (j, b)⟩ :: rest)) := fun a w s =>
  wpList_step fun K hK => by
    rw [wanted_undef s (o := ⟨some d, op, ty, pos, aft, some (j, b)⟩) rfl hj hc]
    simp only [Bool.false_eq_true, if_false]
    exact hK _ _ (h _ _ (s.put hd undef (Same.refl w) s.holds))
theorem G.opc {d : Nat} {X : Type} {val : X → Value} {post : X → List HProp} (hd : d < n) (hy : OpC P ⟨some d, op, ty, pos, aft, none⟩ L hs val post)
    (h : ∀ x, G w0 n ((d, val x) :: L) (post x) F (wpList P ops Q rest)) : G w0 n L hs F (wpList P ops Q (⟨some d, op, ty, pos, aft, none⟩ :: rest)) := fun a w s =>
  wpList_plain rfl fun K hK => hy a w F K Q s.evs s.holds fun x w' hs' hh' => hK _ _ (h x _ _ (s.put hd _ hs' hh'))
theorem G.opG {d j t : Nat} {b : Bool} {X : Type} {val : X → Value} {post : X → List HProp} (hd : d < n) (hj : (ops[j]?).bind (·.dst) = some t) (hc : L.get t = some (.bool b))
    (hy : OpC P ⟨some d, op, ty, pos, aft, some (j, b)⟩ L hs val post)
    (h : ∀ x, G w0 n ((d, val x) :: L) (post x) F (wpList P ops Q rest)) : G w0 n L hs F (wpList P ops Q (⟨some d, op, ty, pos, aft, some (j, b)⟩ :: rest)) := fun a w s =>
  wpList_step fun K hK => by
    rw [wanted_of s (o := ⟨some d, op, ty, pos, aft, some (j, b)⟩) rfl hj hc]
    simp only [beq_self_eq_true, if_true]
    exact hy a w F K Q s.evs s.holds fun x w' hs' hh' => hK _ _ (h x _ _ (s.put hd _ hs' hh'))
theorem G.op0 {X : Type} {val : X → Value} {post : X → List HProp} (hy : OpC P ⟨none, op, ty, pos, aft, none⟩ L hs val post)
    (h : ∀ x, G w0 n L (post x) F (wpList P ops Q rest)) : G w0 n L hs F (wpList P ops Q (⟨none, op, ty, pos, aft, none⟩ :: rest)) := fun a w s =>
  wpList_plain rfl fun K hK => hy a w F K Q s.evs s.holds fun x w' hs' hh' => hK _ _ (h x _ _ (s.heap hs' hh'))
/-- what a temporary holds may be split on -/
theorem G.splitB {t : Nat} {p : Prop} [Decidable p] {k : Act → World → Prop} (hc : L.get t = some (.bool (decide p))) (h1 : p → G w0 n ((t, .bool true) :: L) hs F k)
    (h2 : ¬ p → G w0 n ((t, .bool false) :: L) hs F k) : G w0 n L hs F k := fun a w s => by
  by_cases hp : p
  · refine h1 hp a w ⟨s.size, s.defers, fun u v hv => ?_, s.same, s.holds⟩
    simp only [Env.get] at hv
    split at hv
    · rename_i e; subst e; cases hv; rw [s.env _ _ hc]; simp [hp]
    · exact s.env u v hv
  · refine h2 hp a w ⟨s.size, s.defers, fun u v hv => ?_, s.same, s.holds⟩
    simp only [Env.get] at hv
    split at hv
    · rename_i e; subst e; cases hv; rw [s.env _ _ hc]; simp [hp]
    · exact s.env u v hv
/-- what a temporary holds, in other words -/
theorem G.as {t : Nat} {u v : Value} {k : Act → World → Prop} (hc : L.get t = some u) (huv : u = v) (h : G w0 n ((t, v) :: L) hs F k) : G w0 n L hs F k := fun a w s =>
  h a w ⟨s.size, s.defers, fun x y hy => by
    simp only [Env.get] at hy
    split at hy
    · rename_i e; subst e; cases hy; rw [s.env _ _ hc, huv]
    · exact s.env x y hy, s.same, s.holds⟩

/-! ### a region that draws -/
def GO (P : Program) (w0 : World) (n : Nat) (L : Env) (hs : List HProp) (F : HProp) (R : List HProp) (ops : Array Oper) (Q : Exit → Act → World → Prop) (o : Ord) : Prop :=
  ∀ a w, St w0 n L hs F a w → Holds w (Hs R emp) → wpOrd P ops Q (fun w => Holds w (Hs R emp)) o a w
def GX (P : Program) (w0 : World) (n : Nat) (L : Env) (hs : List HProp) (F : HProp) (R : List HProp) (ops : Array Oper) (Q : Exit → Act → World → Prop) (o : Ord) : Prop :=
  ∀ a w, St w0 n L hs F a w → wpOrd P ops Q (fun w => Holds w (Hs R emp)) o a w
variable {R rest' : List HProp}
theorem Hs.weak {l : List HProp} {A : HProp} : ∀ r, Hs l A r → Hs l emp r := by
  induction l with
  | nil => exact fun _ _ => trivial
  | cons B l ih => exact fun r h => star_mono (fun _ h => h) ih h
theorem Picks.holds {w : World} (hp : Picks hs R rest') (h : Holds w (Hs hs F)) : Holds w (Hs R emp) := (h.mono hp.to).mono (fun _ h => Hs.weak _ h)
theorem G.draw {id : Nat} {l : List Oper} {k : List Code} (hm : P.follows .mixedOrders = true) (o : Ord) (hf : o.fits l.toArray = true) (hp : Picks hs R rest')
    (h : GO P w0 n L hs F R l.toArray (NoPanic (Exit.then (seqs P k Q) Q)) o) : G w0 n L hs F (seqs P (.region id l.toArray true :: k) Q) := fun a w s => by
  refine wp_region_ord (S := fun w => Holds w (Hs R emp)) hm o hf ?_
  have hd : Holds { w with drawn := w.drawn + 1 } (Hs hs F) := by obtain ⟨r, hr, hh⟩ := s.holds; exact ⟨r, hr, hh⟩
  exact h a _ ⟨s.size, s.defers, s.env, s.same.trans ⟨rfl, rfl, rfl, Nat.le_refl _⟩, hd⟩ (hp.holds hd)
theorem GO.x {o : Ord} (h : GX P w0 n L hs F R ops Q o) : GO P w0 n L hs F R ops Q o := fun a w s _ => h a w s
theorem GO.done {k : List Code} (h : G w0 n L hs F (seqs P k Q)) : GO P w0 n L hs F R ops (NoPanic (Exit.then (seqs P k Q) Q)) .done := fun a w s _ => h a w s
theorem GX.done {k : List Code} (h : G w0 n L hs F (seqs P k Q)) : GX P w0 n L hs F R ops (NoPanic (Exit.then (seqs P k Q) Q)) .done := fun a w s => h a w s
section
variable {i d : Nat} {r : Ord} {v : Value}
theorem yieldsIf_of {o : Oper} (hy : Yld P o L R v) {a : Act} {w : World} (s : St w0 n L hs F a w) (hw : Region.wanted o (yielded ops a.tmps) = true) : YieldsIf P ops (fun w => Holds w (Hs R emp)) o v a :=
  .inl ⟨hw, fun w' hS => hy a.eval w' emp s.evs hS⟩
theorem GO.yld (ho : ops[i]? = some ⟨some d, op, ty, pos, aft, none⟩) (hd : d < n) (hy : Yld P ⟨some d, op, ty, pos, aft, none⟩ L R v)
    (h : GO P w0 n ((d, v) :: L) hs F R ops Q r) : GO P w0 n L hs F R ops Q (.still i r) := fun a w s hS =>
  ⟨_, v, ho, yieldsIf_of hy s rfl, hS, h _ _ (s.put hd v (Same.refl w) s.holds) hS⟩
theorem GO.yldG {j t : Nat} {b : Bool} (ho : ops[i]? = some ⟨some d, op, ty, pos, aft, some (j, b)⟩) (hd : d < n) (hj : (ops[j]?).bind (·.dst) = some t) (hc : L.get t = some (.bool b))
    (hy : Yld P ⟨some d, op, ty, pos, aft, some (j, b)⟩ L R v)
    (h : GO P w0 n ((d, v) :: L) hs F R ops Q r) : GO P w0 n L hs F R ops Q (.still i r) := fun a w s hS =>
  ⟨_, v, ho, yieldsIf_of hy s (by rw [wanted_of s (o := ⟨some d, op, ty, pos, aft, some (j, b)⟩) rfl hj hc]; simp), hS, h _ _ (s.put hd v (Same.refl w) s.holds) hS⟩
theorem GO.skipG {j t : Nat} {b c : Bool} (ho : ops[i]? = some ⟨some d, op, ty, pos, aft, some (j, b)⟩) (hd : d < n) (hj : (ops[j]?).bind (·.dst) = some t) (hc : L.get t = some (.bool c)) (hne : (c == b) = false)
    (h : GO P w0 n ((d, undef) :: L) hs F R ops Q r) : GO P w0 n L hs F R ops Q (.still i r) := fun a w s hS =>
  ⟨_, undef, ho, .inr ⟨by rw [wanted_of s (o := ⟨some d, op, ty, pos, aft, some (j, b)⟩) rfl hj hc, hne], rfl⟩, hS, h _ _ (s.put hd undef (Same.refl w) s.holds) hS⟩
theorem GO.skipU {j t : Nat} {b : Bool} (ho : ops[i]? = some ⟨some d, op, ty, pos, aft, some (j, b)⟩) (hd : d < n) (hj : (ops[j]?).bind (·.dst) = some t) (hc : L.get t = some undef)
    (h : GO P w0 n ((d, undef) :: L) hs F R ops Q r) : GO P w0 n L hs F R ops Q (.still i r) := fun a w s hS =>
  ⟨_, undef, ho, .inr ⟨wanted_undef s (o := ⟨some d, op, ty, pos, aft, some (j, b)⟩) rfl hj hc, rfl⟩, hS, h _ _ (s.put hd undef (Same.refl w) s.holds) hS⟩
theorem wpOp_plain {o : Oper} (ho : ops[i]? = some o) (hg : o.guard = none) {K : Act → World → Prop} {a : Act} {w : World} (h : o.wp P a w K Q) : wpOp P ops Q i K a w := by
  unfold wpOp; rw [ho]; simp only [Region.wanted, hg, if_true]; exact .inl h
theorem wpOp_wanted {o : Oper} (ho : ops[i]? = some o) {K : Act → World → Prop} {a : Act} {w : World} (hw : Region.wanted o (yielded ops a.tmps) = true) (h : o.wp P a w K Q) : wpOp P ops Q i K a w := by
  unfold wpOp; rw [ho]; simp only [hw, if_true]; exact .inl h
theorem wpOp_unwanted {o : Oper} (ho : ops[i]? = some o) {K : Act → World → Prop} {a : Act} {w : World} (hw : Region.wanted o (yielded ops a.tmps) = false) (h : K (a.put o.dst undef) w) : wpOp P ops Q i K a w := by
  unfold wpOp; rw [ho]; simp only [hw, Bool.false_eq_true, if_false]; exact h
variable {X : Type} {val : X → Value} {post : X → List HProp}
theorem GO.opc {rs : X → List HProp} (ho : ops[i]? = some ⟨some d, op, ty, pos, aft, none⟩) (hd : d < n) (hy : OpC P ⟨some d, op, ty, pos, aft, none⟩ L hs val post)
    (hp : ∀ x, Picks (post x) R (rs x)) (h : ∀ x, GO P w0 n ((d, val x) :: L) (post x) F R ops Q r) : GO P w0 n L hs F R ops Q (.loud i true r) := fun a w s hS =>
  wpOp_plain ho rfl (hy a w F _ Q s.evs s.holds fun x w' hs' hh' => ⟨fun _ => (hp x).holds hh', h x _ _ (s.put hd _ hs' hh') ((hp x).holds hh')⟩)
theorem GO.opG {rs : X → List HProp} {j t : Nat} {b : Bool} (ho : ops[i]? = some ⟨some d, op, ty, pos, aft, some (j, b)⟩) (hd : d < n) (hj : (ops[j]?).bind (·.dst) = some t) (hc : L.get t = some (.bool b))
    (hy : OpC P ⟨some d, op, ty, pos, aft, some (j, b)⟩ L hs val post)
    (hp : ∀ x, Picks (post x) R (rs x)) (h : ∀ x, GO P w0 n ((d, val x) :: L) (post x) F R ops Q r) : GO P w0 n L hs F R ops Q (.loud i true r) := fun a w s hS =>
  wpOp_wanted ho (by rw [wanted_of s (o := ⟨some d, op, ty, pos, aft, some (j, b)⟩) rfl hj hc]; simp)
    (hy a w F _ Q s.evs s.holds fun x w' hs' hh' => ⟨fun _ => (hp x).holds hh', h x _ _ (s.put hd _ hs' hh') ((hp x).holds hh')⟩)
theorem GO.lskipG {j t : Nat} {b c : Bool} (ho : ops[i]? = some ⟨some d, op, ty, pos, aft, some (j, b)⟩) (hd : d < n) (hj : (ops[j]?).bind (·.dst) = some t) (hc : L.get t = some (.bool c)) (hne : (c == b) = false)
    (h : GO P w0 n ((d, undef) :: L) hs F R ops Q r) : GO P w0 n L hs F R ops Q (.loud i true r) := fun a w s hS =>
  wpOp_unwanted ho (by rw [wanted_of s (o := ⟨some d, op, ty, pos, aft, some (j, b)⟩) rfl hj hc, hne]) ⟨fun _ => hS, h _ _ (s.put hd undef (Same.refl w) s.holds) hS⟩
theorem GO.lskipU {j t : Nat} {b : Bool} (ho : ops[i]? = some ⟨some d, op, ty, pos, aft, some (j, b)⟩) (hd : d < n) (hj : (ops[j]?).bind (·.dst) = some t) (hc : L.get t = some undef)
    (h : GO P w0 n ((d, undef) :: L) hs F R ops Q r) : GO P w0 n L hs F R ops Q (.loud i true r) := fun a w s hS =>
  wpOp_unwanted ho (wanted_undef s (o := ⟨some d, op, ty, pos, aft, some (j, b)⟩) rfl hj hc) ⟨fun _ => hS, h _ _ (s.put hd undef (Same.refl w) s.holds) hS⟩
theorem GX.opc (ho : ops[i]? = some ⟨some d, op, ty, pos, aft, none⟩) (hd : d < n) (hy : OpC P ⟨some d, op, ty, pos, aft, none⟩ L hs val post)
    (h : ∀ x, GX P w0 n ((d, val x) :: L) (post x) F R ops Q r) : GX P w0 n L hs F R ops Q (.loud i false r) := fun a w s =>
  wpOp_plain ho rfl (hy a w F _ Q s.evs s.holds fun x w' hs' hh' => ⟨fun h => (by cases h), h x _ _ (s.put hd _ hs' hh')⟩)
theorem GX.op0 (ho : ops[i]? = some ⟨none, op, ty, pos, aft, none⟩) (hy : OpC P ⟨none, op, ty, pos, aft, none⟩ L hs val post)
    (h : ∀ x, GX P w0 n L (post x) F R ops Q r) : GX P w0 n L hs F R ops Q (.loud i false r) := fun a w s =>
  wpOp_plain ho rfl (hy a w F _ Q s.evs s.holds fun x w' hs' hh' => ⟨fun h => (by cases h), h x _ _ (s.heap hs' hh')⟩)
theorem GX.opG {j t : Nat} {b : Bool} (ho : ops[i]? = some ⟨some d, op, ty, pos, aft, some (j, b)⟩) (hd : d < n) (hj : (ops[j]?).bind (·.dst) = some t) (hc : L.get t = some (.bool b))
    (hy : OpC P ⟨some d, op, ty, pos, aft, some (j, b)⟩ L hs val post)
    (h : ∀ x, GX P w0 n ((d, val x) :: L) (post x) F R ops Q r) : GX P w0 n L hs F R ops Q (.loud i false r) := fun a w s =>
  wpOp_wanted ho (by rw [wanted_of s (o := ⟨some d, op, ty, pos, aft, some (j, b)⟩) rfl hj hc]; simp)
    (hy a w F _ Q s.evs s.holds fun x w' hs' hh' => ⟨fun h => (by cases h), h x _ _ (s.put hd _ hs' hh')⟩)
theorem GX.yld (ho : ops[i]? = some ⟨some d, op, ty, pos, aft, none⟩) (hd : d < n) (hy : Yld P ⟨some d, op, ty, pos, aft, none⟩ L hs v)
    (h : GX P w0 n ((d, v) :: L) hs F R ops Q r) : GX P w0 n L hs F R ops Q (.loud i false r) := fun a w s =>
  wpOp_plain ho rfl (wp_of_yld hy s ⟨fun h => (by cases h), h _ _ (s.put hd v (Same.refl w) s.holds)⟩)
theorem GX.yldG {j t : Nat} {b : Bool} (ho : ops[i]? = some ⟨some d, op, ty, pos, aft, some (j, b)⟩) (hd : d < n) (hj : (ops[j]?).bind (·.dst) = some t) (hc : L.get t = some (.bool b))
    (hy : Yld P ⟨some d, op, ty, pos, aft, some (j, b)⟩ L hs v)
    (h : GX P w0 n ((d, v) :: L) hs F R ops Q r) : GX P w0 n L hs F R ops Q (.loud i false r) := fun a w s =>
  wpOp_wanted ho (by rw [wanted_of s (o := ⟨some d, op, ty, pos, aft, some (j, b)⟩) rfl hj hc]; simp) (wp_of_yld hy s ⟨fun h => (by cases h), h _ _ (s.put hd v (Same.refl w) s.holds)⟩)
theorem GX.skipG {j t : Nat} {b c : Bool} (ho : ops[i]? = some ⟨some d, op, ty, pos, aft, some (j, b)⟩) (hd : d < n) (hj : (ops[j]?).bind (·.dst) = some t) (hc : L.get t = some (.bool c)) (hne : (c == b) = false)
    (h : GX P w0 n ((d, undef) :: L) hs F R ops Q r) : GX P w0 n L hs F R ops Q (.loud i false r) := fun a w s =>
  wpOp_unwanted ho (by rw [wanted_of s (o := ⟨some d, op, ty, pos, aft, some (j, b)⟩) rfl hj hc, hne]) ⟨fun h => (by cases h), h _ _ (s.put hd undef (Same.refl w) s.holds)⟩
theorem GX.skipU {j t : Nat} {b : Bool} (ho : ops[i]? = some ⟨some d, op, ty, pos, aft, some (j, b)⟩) (hd : d < n) (hj : (ops[j]?).bind (·.dst) = some t) (hc : L.get t = some undef)
    (h : GX P w0 n ((d, undef) :: L) hs F R ops Q r) : GX P w0 n L hs F R ops Q (.loud i false r) := fun a w s =>
  wpOp_unwanted ho (wanted_undef s (o := ⟨some d, op, ty, pos, aft, some (j, b)⟩) rfl hj hc) ⟨fun h => (by cases h), h _ _ (s.put hd undef (Same.refl w) s.holds)⟩
theorem GO.splitB {t : Nat} {p : Prop} [Decidable p] {o : Ord} (hc : L.get t = some (.bool (decide p))) (h1 : p → GO P w0 n ((t, .bool true) :: L) hs F R ops Q o)
    (h2 : ¬ p → GO P w0 n ((t, .bool false) :: L) hs F R ops Q o) : GO P w0 n L hs F R ops Q o := fun a w s hS => by
  refine G.splitB (w0 := w0) (n := n) (hs := hs) (F := F) (k := fun a w => Holds w (Hs R emp) → wpOrd P ops Q (fun w => Holds w (Hs R emp)) o a w) hc ?_ ?_ a w s hS
  · exact fun hp a w s hS => h1 hp a w s hS
  · exact fun hp a w s hS => h2 hp a w s hS
theorem GX.splitB {t : Nat} {p : Prop} [Decidable p] {o : Ord} (hc : L.get t = some (.bool (decide p))) (h1 : p → GX P w0 n ((t, .bool true) :: L) hs F R ops Q o)
    (h2 : ¬ p → GX P w0 n ((t, .bool false) :: L) hs F R ops Q o) : GX P w0 n L hs F R ops Q o := fun a w s => by
  refine G.splitB (w0 := w0) (n := n) (hs := hs) (F := F) (k := fun a w => wpOrd P ops Q (fun w => Holds w (Hs R emp)) o a w) hc ?_ ?_ a w s
  · exact fun hp a w s => h1 hp a w s
  · exact fun hp a w s => h2 hp a w s
/-- the atoms may be turned over between two operations of a region, as long as those that are read stay -/
theorem GO.imp {hs' : List HProp} {o : Ord} (hi : ∀ r, Hs hs F r → Hs hs' F r) (h : GO P w0 n L hs' F R ops Q o) : GO P w0 n L hs F R ops Q o :=
  fun a w s hS => h a w ⟨s.size, s.defers, s.env, s.same, s.holds.mono hi⟩ hS
theorem GO.g {o : Ord} {hs' : List HProp} {α : Type} {A : α → HProp} {B : HProp} {φ : Prop} : True := trivial
theorem GO.ex {α : Type} {A : α → HProp} {o : Ord} (h : ∀ x, GO P w0 n L (A x :: hs) F R ops Q o) : GO P w0 n L (Sl.ex A :: hs) F R ops Q o := fun a w s hS =>
  G.ex (k := fun a w => Holds w (Hs R emp) → wpOrd P ops Q (fun w => Holds w (Hs R emp)) o a w) (fun x a w s hS => h x a w s hS) a w s hS
theorem GO.lift {φ : Prop} {o : Ord} (h : φ → GO P w0 n L hs F R ops Q o) : GO P w0 n L (Sl.lift φ :: hs) F R ops Q o := fun a w s hS =>
  G.lift (k := fun a w => Holds w (Hs R emp) → wpOrd P ops Q (fun w => Holds w (Hs R emp)) o a w) (fun hφ a w s hS => h hφ a w s hS) a w s hS
theorem GO.star {A B : HProp} {o : Ord} (h : GO P w0 n L (A :: B :: hs) F R ops Q o) : GO P w0 n L (Sl.star A B :: hs) F R ops Q o := GO.imp (hs' := A :: B :: hs) (fun _ => star_assoc) h
theorem GX.imp {hs' : List HProp} {o : Ord} (hi : ∀ r, Hs hs F r → Hs hs' F r) (h : GX P w0 n L hs' F R ops Q o) : GX P w0 n L hs F R ops Q o :=
  fun a w s => h a w ⟨s.size, s.defers, s.env, s.same, s.holds.mono hi⟩
theorem GX.ex {α : Type} {A : α → HProp} {o : Ord} (h : ∀ x, GX P w0 n L (A x :: hs) F R ops Q o) : GX P w0 n L (Sl.ex A :: hs) F R ops Q o := fun a w s =>
  G.ex (k := fun a w => wpOrd P ops Q (fun w => Holds w (Hs R emp)) o a w) (fun x a w s => h x a w s) a w s
theorem GX.lift {φ : Prop} {o : Ord} (h : φ → GX P w0 n L hs F R ops Q o) : GX P w0 n L (Sl.lift φ :: hs) F R ops Q o := fun a w s =>
  G.lift (k := fun a w => wpOrd P ops Q (fun w => Holds w (Hs R emp)) o a w) (fun hφ a w s => h hφ a w s) a w s
theorem GX.star {A B : HProp} {o : Ord} (h : GX P w0 n L (A :: B :: hs) F R ops Q o) : GX P w0 n L (Sl.star A B :: hs) F R ops Q o := GX.imp (hs' := A :: B :: hs) (fun _ => star_assoc) h
end
end
end Go.Sl
