/- The walk through a function's code over the small logic of separate memory. -/
import Derived.Test.YtogemllbdkbjkaaSlCore
import Derived.Tactics2
import Derived.Deep.RegionHeld3
set_option linter.unusedVariables false
set_option linter.unusedSimpArgs false
namespace Go.Sl
open Go

/-- what the temporaries are known to hold -/
abbrev Env := List (Nat × Value)
def Env.get : Env → Nat → Option Value
  | [], _ => none
  | (k, v) :: l, t => if k = t then some v else Env.get l t
def Env.ev (L : Env) : Operand → Option Value
  | .tmp t => L.get t
  | .const v => some v
  | .global g => some (.pointer (some ⟨g, 0, none⟩))
  | .func f => some (.func (.func f) #[] #[])
/-- the state of a walk: n temporaries, of which L is known; the memory's atoms, ahead of a frame F -/
structure St (w0 : World) (n : Nat) (L : Env) (hs : List HProp) (F : HProp) (a : Act) (w : World) : Prop where
  size : a.tmps.size = n
  defers : a.defers = []
  env : ∀ t v, L.get t = some v → a.tmps[t]? = some v
  same : Same w0 w
  holds : Holds w (Hs hs F)

theorem St.eval {w0 : World} {n : Nat} {L : Env} {hs : List HProp} {F : HProp} {a : Act} {w : World} (h : St w0 n L hs F a w) {x : Operand} {v : Value}
    (hx : L.ev x = some v) : a.eval x = v := by
  cases x with
  | tmp t =>
    have := h.env t v hx
    simp [Act.eval, this]
  | const c => simpa [Env.ev, Act.eval] using hx
  | global g => simpa [Env.ev, Act.eval] using hx
  | func f => simpa [Env.ev, Act.eval] using hx

theorem St.put {w0 : World} {n : Nat} {L : Env} {hs hs' : List HProp} {F : HProp} {a : Act} {w w' : World} (h : St w0 n L hs F a w) {d : Nat} (hd : d < n) (v : Value)
    (hw : Same w w') (hh : Holds w' (Hs hs' F)) : St w0 n ((d, v) :: L) hs' F (a.put (some d) v) w' where
  size := by simp [Act.put, h.size]
  defers := by simp [Act.put, h.defers]
  env := fun t u ht => by
    simp only [Env.get] at ht
    simp only [Act.put, Array.getElem?_setIfInBounds]
    by_cases hdt : d = t
    · subst hdt; simp [h.size, hd]; simpa using ht
    · rw [if_neg hdt]; rw [if_neg hdt] at ht; exact h.env t u ht
  same := h.same.trans hw
  holds := hh
theorem St.heap {w0 : World} {n : Nat} {L : Env} {hs hs' : List HProp} {F : HProp} {a : Act} {w w' : World} (h : St w0 n L hs F a w) 
    (hw : Same w w') (hh : Holds w' (Hs hs' F)) : St w0 n L hs' F a w' := ⟨h.size, h.defers, h.env, h.same.trans hw, hh⟩

/-- a goal of the walk -/
def G (w0 : World) (n : Nat) (L : Env) (hs : List HProp) (F : HProp) (k : Act → World → Prop) : Prop := ∀ a w, St w0 n L hs F a w → k a w

section
variable {w0 : World} {n : Nat} {L : Env} {hs : List HProp} {F : HProp} {k : Act → World → Prop}

/-! ### what may be done to the state at any point -/
theorem G.mono {k' : Act → World → Prop} (h : G w0 n L hs F k) (hk : ∀ a w, k a w → k' a w) : G w0 n L hs F k' := fun a w s => hk a w (h a w s)
theorem G.imp {hs' : List HProp} (hi : ∀ r, Hs hs F r → Hs hs' F r) (h : G w0 n L hs' F k) : G w0 n L hs F k :=
  fun a w s => h a w ⟨s.size, s.defers, s.env, s.same, s.holds.mono hi⟩
theorem G.ex {α : Type} {A : α → HProp} (h : ∀ x, G w0 n L (A x :: hs) F k) : G w0 n L (Sl.ex A :: hs) F k := fun a w s => by
  obtain ⟨r, hr, r1, r2, hok, he, ⟨x, hx⟩, hF⟩ := s.holds
  exact h x a w ⟨s.size, s.defers, s.env, s.same, r, hr, r1, r2, hok, he, hx, hF⟩
theorem G.lift {φ : Prop} (h : φ → G w0 n L hs F k) : G w0 n L (Sl.lift φ :: hs) F k := fun a w s => by
  obtain ⟨r, hr, r1, r2, hok, he, hφ, hF⟩ := s.holds
  exact h hφ a w ⟨s.size, s.defers, s.env, s.same, r2, Res.on_right hok (he ▸ hr), hF⟩
theorem G.star {A B : HProp} (h : G w0 n L (A :: B :: hs) F k) : G w0 n L (Sl.star A B :: hs) F k := G.imp (hs' := A :: B :: hs) (fun _ => star_assoc) h
theorem G.drop {A : HProp} (h : G w0 n L hs F k) : G w0 n L (A :: hs) F k := fun a w s => h a w ⟨s.size, s.defers, s.env, s.same, s.holds.right⟩

/-- what is known of the temporaries, less of it -/
inductive Keep (L : Env) : Env → Prop
  | nil : Keep L []
  | cons {t : Nat} {v : Value} {M : Env} (h : L.get t = some v) (r : Keep L M) : Keep L ((t, v) :: M)
theorem Keep.get {L M : Env} (h : Keep L M) : ∀ t v, M.get t = some v → L.get t = some v := by
  induction h with
  | nil => intro t v h; cases h
  | cons h r ih =>
    intro t v hv
    simp only [Env.get] at hv
    split at hv
    · rename_i e; subst e; cases hv; exact h
    · exact ih t v hv
theorem G.keep {M : Env} (hk : Keep L M) (h : G w0 n M hs F k) : G w0 n L hs F k :=
  fun a w s => h a w ⟨s.size, s.defers, fun t v hv => s.env t v (hk.get t v hv), s.same, s.holds⟩
end

/-- an atom of a list, and what is left without it -/
inductive Pick : List HProp → HProp → List HProp → Prop
  | here {A : HProp} {l : List HProp} : Pick (A :: l) A l
  | there {A B : HProp} {l m : List HProp} (h : Pick l A m) : Pick (B :: l) A (B :: m)
theorem Pick.to {l m : List HProp} {A F : HProp} (h : Pick l A m) : ∀ r, Hs l F r → star A (Hs m F) r := by
  induction h with
  | here => exact fun _ h => h
  | there _ ih => exact fun r hr => star_swap (star_mono (fun _ h => h) ih hr)
theorem Pick.back {l m : List HProp} {A F : HProp} (h : Pick l A m) : ∀ r, star A (Hs m F) r → Hs l F r := by
  induction h with
  | here => exact fun _ h => h
  | there _ ih => exact fun r hr => star_mono (fun _ h => h) ih (star_swap hr)
theorem G.pick {w0 : World} {n : Nat} {L : Env} {hs hs' : List HProp} {F A : HProp} {k : Act → World → Prop} (h : Pick hs A hs') (g : G w0 n L (A :: hs') F k) : G w0 n L hs F k :=
  G.imp (hs' := A :: hs') (fun r hr => h.to r hr) g

/-- the atoms of one list stand in another one -/
inductive Picks : List HProp → List HProp → List HProp → Prop
  | nil {l : List HProp} : Picks l [] l
  | cons {l m k : List HProp} {A : HProp} {As : List HProp} (h : Pick l A m) (r : Picks m As k) : Picks l (A :: As) k
theorem Picks.refl : ∀ (l : List HProp), Picks l l []
  | [] => .nil
  | _ :: l => .cons .here (Picks.refl l)
theorem Picks.to {l As m : List HProp} {F : HProp} (h : Picks l As m) : ∀ r, Hs l F r → Hs As (Hs m F) r := by
  induction h with
  | nil => exact fun _ h => h
  | cons h _ ih => exact fun r hr => star_mono (fun _ h => h) ih (h.to r hr)

def Res.sub (r s : Res) : Prop := ∀ b x, r b = some x → s b = some x
theorem Hs.drop {l : List HProp} {A F : HProp} : ∀ r, Hs l (star A F) r → ∃ r', Res.sub r' r ∧ Hs l F r' := by
  induction l with
  | nil =>
    rintro r ⟨r1, r2, hok, rfl, ha, hb⟩
    exact ⟨r2, fun b x h => Res.add_right hok h, hb⟩
  | cons B l ih =>
    rintro r ⟨r1, r2, hok, rfl, ha, hb⟩
    obtain ⟨r', hs, hF⟩ := ih r2 hb
    have hok' : Res.ok r1 r' := fun b x y hx hy => hok b x y hx (hs b y hy)
    refine ⟨Res.add r1 r', fun b x h => ?_, r1, r', hok', rfl, ha, hF⟩
    rcases Res.add_some h with h | ⟨_, h⟩
    · exact Res.add_left h
    · exact Res.add_right hok (hs b x h)
theorem Holds.sub {w : World} {A B : HProp} (h : Holds w A) (hab : ∀ r, A r → ∃ r', Res.sub r' r ∧ B r') : Holds w B := by
  obtain ⟨r, hr, ha⟩ := h
  obtain ⟨r', hs, hb⟩ := hab r ha
  exact ⟨r', fun b m o hb => hr b m o (hs b _ hb), hb⟩
theorem Holds.drops {w : World} {l m : List HProp} {F : HProp} (h : Holds w (Hs l (Hs m F))) : Holds w (Hs l F) := by
  induction m with
  | nil => exact h
  | cons A m ih => exact ih (h.sub (fun r hr => Hs.drop r hr))

/-! ### contracts -/
def Spec (P : Program) (f : FuncId) (args : Array Value) (Pre : List HProp) (Post : Value → HProp) : Prop :=
  ∀ (w : World) (F : HProp), Holds w (Hs Pre F) → Calls P f args w fun e w' => ∃ v, e = .returned v ∧ Same w w' ∧ Holds w' (star (Post v) F)

/-! ### code -/
section
variable {P : Program} {w0 : World} {n : Nat} {L : Env} {hs : List HProp} {F : HProp} {Q : Exit → Act → World → Prop}

/-- the codes that are still to be walked -/
def seqs (P : Program) : List Code → (Exit → Act → World → Prop) → Act → World → Prop
  | [], Q => Q .normal
  | c :: k, Q => c.wp P (Exit.then (seqs P k Q) Q)

theorem then_then {K : Act → World → Prop} {K' : Act → World → Prop} {Q : Exit → Act → World → Prop} : Exit.then K (Exit.then K' Q) = Exit.then K Q := by
  funext e a w; cases e <;> rfl

theorem G.seq {x y : Code} {k : List Code} (h : G w0 n L hs F (seqs P (x :: y :: k) Q)) : G w0 n L hs F (seqs P (.seq x y :: k) Q) := fun a w s => by
  have := h a w s
  simp only [seqs] at this ⊢
  refine wp_seq ?_
  rw [then_then]; exact this
theorem G.skip {k : List Code} (h : G w0 n L hs F (seqs P k Q)) : G w0 n L hs F (seqs P (.skip :: k) Q) := fun a w s => wp_skip (h a w s)
theorem G.nil (h : G w0 n L hs F (Q .normal)) : G w0 n L hs F (seqs P [] Q) := h
theorem G.ret {k : List Code} (h : G w0 n L hs F (Q .ret)) : G w0 n L hs F (seqs P (.ret :: k) Q) := fun a w s => wp_ret (h a w s)
theorem G.exit {id : Nat} {k : List Code} (h : G w0 n L hs F (Q (.exit id))) : G w0 n L hs F (seqs P (.exit id :: k) Q) := fun a w s => wp_exit (h a w s)
theorem G.block {id : Nat} {c : Code} {k : List Code} (h : G w0 n L hs F (seqs P [c] (Exit.inBlock id (Exit.then (seqs P k Q) Q)))) :
    G w0 n L hs F (seqs P (.block id c :: k) Q) := fun a w s => by
  refine wp_block ?_
  have := h a w s
  simp only [seqs] at this
  refine Code.wp_mono ?_ this
  intro e a w q
  cases e <;> exact q
theorem G.cond {c : Operand} {x y : Code} {k : List Code} {t : Bool} (hc : L.ev c = some (.bool t)) (h1 : t = true → G w0 n L hs F (seqs P (x :: k) Q))
    (h2 : t = false → G w0 n L hs F (seqs P (y :: k) Q)) : G w0 n L hs F (seqs P (.cond c x y :: k) Q) := fun a w s =>
  wp_cond_split (s.eval hc) (fun e => h1 e a w s) (fun e => h2 e a w s)
theorem G.condT {c : Operand} {x y : Code} {k : List Code} (hc : L.ev c = some (.bool true)) (h : G w0 n L hs F (seqs P (x :: k) Q)) :
    G w0 n L hs F (seqs P (.cond c x y :: k) Q) := fun a w s => wp_cond_true (s.eval hc) (h a w s)
theorem G.condF {c : Operand} {x y : Code} {k : List Code} (hc : L.ev c = some (.bool false)) (h : G w0 n L hs F (seqs P (y :: k) Q)) :
    G w0 n L hs F (seqs P (.cond c x y :: k) Q) := fun a w s => wp_cond_false (s.eval hc) (h a w s)
/-- a test on a statement that can be decided -/
theorem G.condP {c : Operand} {x y : Code} {k : List Code} {p : Prop} [Decidable p] (hc : L.ev c = some (.bool (decide p))) (h1 : p → G w0 n L hs F (seqs P (x :: k) Q))
    (h2 : ¬ p → G w0 n L hs F (seqs P (y :: k) Q)) : G w0 n L hs F (seqs P (.cond c x y :: k) Q) :=
  G.cond hc (fun e => h1 (of_decide_eq_true e)) (fun e => h2 (of_decide_eq_false e))

/-- ways out -/
theorem G.x_then {K : Act → World → Prop} (h : G w0 n L hs F K) : G w0 n L hs F (Exit.then K Q .normal) := h
theorem G.x_ret_then {K : Act → World → Prop} (h : G w0 n L hs F (Q .ret)) : G w0 n L hs F (Exit.then K Q .ret) := h
theorem G.x_exit_then {K : Act → World → Prop} {id : Nat} (h : G w0 n L hs F (Q (.exit id))) : G w0 n L hs F (Exit.then K Q (.exit id)) := h
theorem G.x_block {id : Nat} (h : G w0 n L hs F (Q .normal)) : G w0 n L hs F (Exit.inBlock id Q .normal) := h
theorem G.x_ret_block {id : Nat} (h : G w0 n L hs F (Q .ret)) : G w0 n L hs F (Exit.inBlock id Q .ret) := h
theorem G.x_exit_block {id : Nat} (h : G w0 n L hs F (Q .normal)) : G w0 n L hs F (Exit.inBlock id Q (.exit id)) := fun a w s => by
  simp only [Exit.inBlock, if_true]; exact h a w s
theorem G.x_exit_block_ne {id id' : Nat} (hne : (id' == id) = false) (h : G w0 n L hs F (Q (.exit id'))) : G w0 n L hs F (Exit.inBlock id Q (.exit id')) := fun a w s => by
  have : id' ≠ id := by simpa using hne
  simp only [Exit.inBlock, this, if_false]; exact h a w s

theorem least {p : Nat → Prop} (h : ∃ i, p i) : ∃ i, p i ∧ ∀ j, p j → i ≤ j := by
  obtain ⟨i, hi⟩ := h
  induction i using Nat.strongRecOn with
  | _ i ih =>
    by_cases h : ∃ j, j < i ∧ p j
    · obtain ⟨j, hj, hp⟩ := h; exact ih j hj hp
    · exact ⟨i, hi, fun j hj => Nat.le_of_not_lt fun hlt => h ⟨j, hlt, hj⟩⟩
open Classical in
noncomputable def leastOf (p : Nat → Prop) : Nat := if h : ∃ i, p i then Classical.choose (least h) else 0
theorem leastOf_spec {p : Nat → Prop} (h : ∃ i, p i) : p (leastOf p) ∧ ∀ j, p j → leastOf p ≤ j := by
  unfold leastOf; rw [dif_pos h]; exact Classical.choose_spec (least h)
/-- a loop with a ghost: the relation at its head, over what is carried along; a measure that goes down -/
theorem wp_loop_ghost {X : Type} {c : Code} {a : Act} {w : World} (S : X → Act → World → Prop) (m : X → Nat) (x0 : X) (h0 : S x0 a w)
    (round : ∀ x a w, S x a w → c.wp P (Exit.then (fun a' w' => ∃ x', m x' < m x ∧ S x' a' w') Q) a w) : (Code.loop c).wp P Q a w := by
  refine wp_loop (fun a w => ∃ x, S x a w) (fun a w => leastOf fun i => ∃ x, m x = i ∧ S x a w) ⟨x0, h0⟩ ?_
  intro a w ⟨x, hx⟩
  obtain ⟨⟨y, hy, hS⟩, _⟩ := leastOf_spec (p := fun i => ∃ x, m x = i ∧ S x a w) ⟨_, x, rfl, hx⟩
  refine Code.wp_mono ?_ (round y a w hS)
  intro e a' w' q
  cases e with
  | normal =>
    obtain ⟨x', hlt, hS'⟩ := q
    refine ⟨⟨x', hS'⟩, ?_⟩
    have := (leastOf_spec (p := fun i => ∃ x, m x = i ∧ S x a' w') ⟨_, x', rfl, hS'⟩).2 _ ⟨x', rfl, hS'⟩
    show (leastOf fun i => ∃ x, m x = i ∧ S x a' w') < leastOf fun i => ∃ x, m x = i ∧ S x a w
    omega
  | _ => exact q
/-- the relation's end: the next round's head -/
def Again {X : Type} (w0 : World) (n : Nat) (F : HProp) (Li : X → Env) (Hi : X → List HProp) (m : X → Nat) (x : X) (a : Act) (w : World) : Prop :=
  ∃ x', m x' < m x ∧ St w0 n (Li x') (Hi x') F a w
theorem G.loop {X : Type} {c : Code} {k : List Code} (Li : X → Env) (Hi : X → List HProp) (m : X → Nat) (x0 : X) (hk : Keep L (Li x0)) {rest : List HProp} (hp : Picks hs (Hi x0) rest)
    (round : ∀ x, G w0 n (Li x) (Hi x) (Hs rest F) (seqs P [c] (Exit.then (Again w0 n (Hs rest F) Li Hi m x) (Exit.then (seqs P k Q) Q)))) :
    G w0 n L hs F (seqs P (.loop c :: k) Q) := fun a w s => by
  refine wp_loop_ghost (fun x => St w0 n (Li x) (Hi x) (Hs rest F)) m x0 ⟨s.size, s.defers, fun t v hv => s.env t v (hk.get t v hv), s.same, s.holds.mono hp.to⟩ ?_
  intro x a w sx
  have := round x a w sx
  simp only [seqs] at this
  refine Code.wp_mono ?_ this
  intro e a w q
  cases e <;> exact q
theorem G.again {X : Type} {Li : X → Env} {Hi : X → List HProp} {m : X → Nat} {x : X} (x' : X) (hm : m x' < m x) (hk : Keep L (Li x')) {rest : List HProp} (hp : Picks hs (Hi x') rest) :
    G w0 n L hs F (Again w0 n F Li Hi m x) := fun a w s =>
  ⟨x', hm, s.size, s.defers, fun t v hv => s.env t v (hk.get t v hv), s.same, (s.holds.mono hp.to).drops⟩
end
end Go.Sl
