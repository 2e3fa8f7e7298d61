/- A function's body as a contract; what a list of atoms gives. -/
import Derived.Test.YtogemllbdkbjkaaSlMem
set_option linter.unusedVariables false
set_option linter.unusedSimpArgs false
namespace Go.Sl
open Go
/-- the atoms hs give A, and leave 'rest' -/
def Ent (hs : List HProp) (A : HProp) (rest : List HProp) : Prop := ∀ F r, Hs hs F r → star A (Hs rest F) r
theorem star_emp {A : HProp} {r : Res} (h : A r) : star emp A r := ⟨fun _ => none, r, (fun _ _ _ h => by cases h), (by funext b; rfl), trivial, h⟩
theorem star_lift {φ : Prop} {A : HProp} {r : Res} (hφ : φ) (h : A r) : star (lift φ) A r := ⟨fun _ => none, r, (fun _ _ _ h => by cases h), (by funext b; rfl), hφ, h⟩
theorem Ent.pick {hs m : List HProp} {A : HProp} (h : Pick hs A m) : Ent hs A m := fun _ r hr => h.to r hr
theorem Ent.lift {hs : List HProp} {φ : Prop} (h : φ) : Ent hs (Sl.lift φ) hs := fun _ _ hr => star_lift h hr
theorem Ent.emp {hs : List HProp} : Ent hs Sl.emp hs := fun _ _ hr => star_emp hr
theorem Ent.ex {hs m : List HProp} {α : Type} {A : α → HProp} (x : α) (h : Ent hs (A x) m) : Ent hs (Sl.ex A) m := fun F r hr => star_mono (fun _ h => ⟨x, h⟩) (fun _ h => h) (h F r hr)
theorem Ent.star {hs m k : List HProp} {A B : HProp} (h1 : Ent hs A m) (h2 : Ent m B k) : Ent hs (Sl.star A B) k := fun F r hr =>
  star_assoc' (star_mono (fun _ h => h) (h2 F) (h1 F r hr))
theorem Ent.imp {hs m : List HProp} {A B : HProp} (h : Ent hs A m) (hi : ∀ r, A r → B r) : Ent hs B m := fun F r hr => star_mono hi (fun _ h => h) (h F r hr)
theorem Ent.of {hs m k : List HProp} {A B : HProp} (hp : Pick hs A m) (h : Ent (A :: m) B k) : Ent hs B k := fun F r hr => h F r (hp.to r hr)
/-- the atoms hs give all of 'As' -/
inductive Ents : List HProp → List HProp → List HProp → Prop
  | nil {l : List HProp} : Ents l [] l
  | cons {l m k : List HProp} {A : HProp} {As : List HProp} (h : Ent l A m) (r : Ents m As k) : Ents l (A :: As) k
theorem Ents.to {l As m : List HProp} {F : HProp} (h : Ents l As m) : ∀ r, Hs l F r → Hs As (Hs m F) r := by
  induction h with
  | nil => exact fun _ h => h
  | cons h _ ih => exact fun r hr => star_mono (fun _ h => h) ih (h _ r hr)
theorem Ents.of_picks {l As m : List HProp} (h : Picks l As m) : Ents l As m := by
  induction h with
  | nil => exact .nil
  | cons h _ ih => exact .cons (.pick h) ih
theorem G.ents {w0 : World} {n : Nat} {L : Env} {hs As m : List HProp} {F : HProp} {k : Act → World → Prop} (h : Ents hs As m) (g : G w0 n L As (Hs m F) k) : G w0 n L hs F k := fun a w s =>
  g a w ⟨s.size, s.defers, s.env, s.same, s.holds.mono h.to⟩
theorem G.fold {w0 : World} {n : Nat} {L : Env} {hs m : List HProp} {A F : HProp} {k : Act → World → Prop} (h : Ent hs A m) (g : G w0 n L (A :: m) F k) : G w0 n L hs F k := G.imp (hs' := A :: m) (fun r hr => h F r hr) g
theorem Hs_append {l m : List HProp} {F : HProp} : Hs (l ++ m) F = Hs l (Hs m F) := by
  induction l with
  | nil => rfl
  | cons A l ih => show star A (Hs (l ++ m) F) = star A (Hs l (Hs m F)); rw [ih]
/-- atoms in other words, the rest stays -/
theorem G.turn {w0 : World} {n : Nat} {L : Env} {hs As m : List HProp} {F : HProp} {k : Act → World → Prop} (h : Ents hs As m) (g : G w0 n L (As ++ m) F k) : G w0 n L hs F k := fun a w s =>
  g a w ⟨s.size, s.defers, s.env, s.same, by rw [Hs_append]; exact s.holds.mono h.to⟩
theorem Spec.weaken {P : Program} {f : FuncId} {args : Array Value} {Pre Pre' m : List HProp} {Post : Value → HProp} (h : Spec P f args Pre Post) (hp : Ents Pre' Pre m) : Spec P f args Pre' Post := fun w F hh => by
  refine (h w (Hs m F) (hh.mono hp.to)).mono ?_
  rintro e w' ⟨v, rfl, hs, hh'⟩
  exact ⟨v, rfl, hs, Holds.drops (l := [Post v]) hh'⟩
theorem Spec.post {P : Program} {f : FuncId} {args : Array Value} {Pre : List HProp} {Post Post' : Value → HProp} (h : Spec P f args Pre Post) (hp : ∀ v r, Post v r → Post' v r) : Spec P f args Pre Post' := fun w F hh => by
  refine (h w F hh).mono ?_
  rintro e w' ⟨v, rfl, hs, hh'⟩
  exact ⟨v, rfl, hs, hh'.mono fun _ => star_mono (hp v) (fun _ h => h)⟩

section
variable {P : Program} {L : Env} {hs : List HProp}
/-- the frame at a body's beginning -/
def argEnv : Nat → List Value → Env
  | _, [] => []
  | i, v :: r => (i, v) :: argEnv (i + 1) r
theorem argEnv_get : ∀ (vs : List Value) (i t : Nat) (v : Value), (argEnv i vs).get t = some v → i ≤ t ∧ vs[t - i]? = some v
  | [], i, t, v, h => by cases h
  | x :: r, i, t, v, h => by
    simp only [argEnv, Env.get] at h
    split at h
    · rename_i e; subst e; cases h; exact ⟨Nat.le_refl _, by simp⟩
    · obtain ⟨h1, h2⟩ := argEnv_get r (i + 1) t v h
      refine ⟨by omega, ?_⟩
      rw [show t - i = (t - (i + 1)) + 1 by omega]; simpa using h2
def bodyQ (P : Program) (fn : Func) (Post : Value → HProp) (w0 : World) (F : HProp) : Exit → Act → World → Prop :=
  bodyPost P fn fun e w' => ∃ v, e = .returned v ∧ Same w0 w' ∧ Holds w' (star (Post v) F)
theorem Spec.of_body {f : FuncId} {fn : Func} {c : Code} {vs : List Value} {Pre : List HProp} {Post : Value → HProp} {n : Nat} (hf : P.funcs[f]? = some fn) (hn : fn.ntmps = n) (hle : vs.length ≤ n) (hb : fn.body = some c)
    (h : ∀ w0 F, G w0 n (argEnv 0 vs) Pre F (seqs P [c] (bodyQ P fn Post w0 F))) : Spec P f vs.toArray Pre Post := fun w F hh => by
  refine calls_of_wp hf hb ?_
  have h' := h w F ⟨vs.toArray ++ Array.replicate (fn.ntmps - vs.length) undef, []⟩ w ⟨by simp; omega, rfl, ?_, Same.refl w, hh⟩
  · simp only [seqs] at h'
    refine Code.wp_mono ?_ (by simpa using h')
    intro e a w q
    cases e <;> exact q
  · intro t v ht
    obtain ⟨_, h2⟩ := argEnv_get vs 0 t v ht
    simp only [Nat.sub_zero] at h2
    have hlt := (List.getElem?_eq_some_iff.1 h2).1
    simp [Array.getElem?_append, hlt]
    simpa [hlt] using h2
/-- a result -/
def ResOk (P : Program) (L : Env) (hs : List HProp) (r : ResultVar) (v : Value) : Prop :=
  ∀ (tmps : Array Value) (w : World) (F : HProp), (∀ t v, L.get t = some v → tmps[t]? = some v) → Holds w (Hs hs F) →
    (match r with | .tmp t => pure (tmps.getD t undef) | .cell a t => do loadVar t (← asAddr (tmps.getD a undef)) : Sem Value).run P w = .ok v w
theorem ResOk.tmp {t : Nat} {v : Value} (h : L.get t = some v) : ResOk P L hs (.tmp t) v := fun tmps w F hev _ => by
  have := hev t v h
  simp [this, Sem.run_pure]
theorem ResOk.cell {a b off : Nat} {t : TypeId} {m : Bool} {T : TypeId} {vs : List Value} {v : Value} {hs' : List HProp} (h : L.get a = some (.pointer (some ⟨b, off, none⟩)))
    (ht : ∀ w, (isAgg t).run P w = .ok false w) (hp : Pick hs (cel m b T vs) hs') (hv : vs[off]? = some v) : ResOk P L hs (.cell a t) v := fun tmps w F hev hh => by
  have := hev a _ h
  have hc := (hh.mono hp.to).left.cell hv
  simp [this, asAddr, Sem.run_bind, Sem.run_pure, loadVar, ht, go_sem, hc]
theorem ResOk.agg {a b off k : Nat} {t : TypeId} {m : Bool} {T : TypeId} {vs cs : List Value} {hs' : List HProp} (h : L.get a = some (.pointer (some ⟨b, off, none⟩)))
    (ht : ∀ w, (isAgg t).run P w = .ok true w) (hz : ∀ w, (sizeOf t).run P w = .ok k w) (hp : Pick hs (cel m b T vs) hs') (hk : cs.length = k)
    (hv : ∀ j v, cs[j]? = some v → vs[off + j]? = some v) : ResOk P L hs (.cell a t) (.agg cs.toArray) := fun tmps w F hev hh => by
  have := hev a _ h
  have hc := (hh.mono hp.to).left
  have hr := run_loadCells (P := P) (w := w) (b := b) (off := off) hk (fun j v hj => hc.cell (hv j v hj))
  simp only [Array.getD_eq_getD_getElem?, this, Option.getD_some, asAddr, Sem.run_bind, Sem.run_pure, Result.andThen_ok, loadVar, ht, if_true, hz, hr]
def resRun (tmps : Array Value) (r : ResultVar) : Sem Value := match r with | .tmp t => pure (tmps.getD t undef) | .cell a t => do loadVar t (← asAddr (tmps.getD a undef))
theorem results_eq (fn : Func) (tmps : Array Value) : results fn tmps = (do let vs ← fn.results.mapM (resRun tmps); pure (if h : vs.size = 1 then vs[0] else .tuple vs)) := rfl
theorem run_ret0 {fn : Func} (hr : fn.results = #[]) {tmps : Array Value} {w : World} : (results fn tmps).run P w = .ok (.tuple #[]) w := by
  rw [results_eq, hr]
  simp [Sem.run_bind, Sem.run_pure, Array.mapM_eq_mapM_toList]
theorem run_ret1 {fn : Func} {r1 : ResultVar} {v1 : Value} (hr : fn.results = #[r1]) {tmps : Array Value} {w : World} (h1 : (resRun tmps r1).run P w = .ok v1 w) : (results fn tmps).run P w = .ok v1 w := by
  rw [results_eq, hr]
  simp [Sem.run_bind, Sem.run_pure, h1, Array.mapM_eq_mapM_toList]
theorem run_ret2 {fn : Func} {r1 r2 : ResultVar} {v1 v2 : Value} (hr : fn.results = #[r1, r2]) {tmps : Array Value} {w : World} (h1 : (resRun tmps r1).run P w = .ok v1 w) (h2 : (resRun tmps r2).run P w = .ok v2 w) :
    (results fn tmps).run P w = .ok (.tuple #[v1, v2]) w := by
  rw [results_eq, hr]
  simp [Sem.run_bind, Sem.run_pure, h1, h2, Array.mapM_eq_mapM_toList]
theorem run_ret3 {fn : Func} {r1 r2 r3 : ResultVar} {v1 v2 v3 : Value} (hr : fn.results = #[r1, r2, r3]) {tmps : Array Value} {w : World} (h1 : (resRun tmps r1).run P w = .ok v1 w) (h2 : (resRun tmps r2).run P w = .ok v2 w)
    (h3 : (resRun tmps r3).run P w = .ok v3 w) : (results fn tmps).run P w = .ok (.tuple #[v1, v2, v3]) w := by
  rw [results_eq, hr]
  simp [Sem.run_bind, Sem.run_pure, h1, h2, h3, Array.mapM_eq_mapM_toList]
theorem run_ret4 {fn : Func} {r1 r2 r3 r4 : ResultVar} {v1 v2 v3 v4 : Value} (hr : fn.results = #[r1, r2, r3, r4]) {tmps : Array Value} {w : World} (h1 : (resRun tmps r1).run P w = .ok v1 w) (h2 : (resRun tmps r2).run P w = .ok v2 w)
    (h3 : (resRun tmps r3).run P w = .ok v3 w) (h4 : (resRun tmps r4).run P w = .ok v4 w) : (results fn tmps).run P w = .ok (.tuple #[v1, v2, v3, v4]) w := by
  rw [results_eq, hr]
  simp [Sem.run_bind, Sem.run_pure, h1, h2, h3, h4, Array.mapM_eq_mapM_toList]
variable {w0 : World} {F : HProp} {n : Nat} {fn : Func} {Post : Value → HProp}
theorem bodyQ_of {a : Act} {w : World} {v : Value} {e : Exit} (he : e = .normal ∨ e = .ret) (s : St w0 n L hs F a w) (hr : (results fn a.tmps).run P w = .ok v w) (hE : ∃ rest, Ent hs (Post v) rest) : bodyQ P fn Post w0 F e a w := by
  obtain ⟨rest, hE⟩ := hE
  have hh : Holds w (star (Post v) F) := Holds.drops (l := [Post v]) (s.holds.mono (hE F))
  rcases he with rfl | rfl
  · exact ⟨s.defers, v, hr, v, rfl, s.same, hh⟩
  · exact ⟨s.defers, v, hr, v, rfl, s.same, hh⟩
theorem G.ret0 {e : Exit} (he : e = .normal ∨ e = .ret) (hr : fn.results = #[]) (hE : ∃ rest, Ent hs (Post (.tuple #[])) rest) : G w0 n L hs F (bodyQ P fn Post w0 F e) := fun a w s =>
  bodyQ_of he s (run_ret0 hr) hE
theorem G.ret1 {e : Exit} (he : e = .normal ∨ e = .ret) {r1 : ResultVar} {v1 : Value} (hr : fn.results = #[r1]) (h1 : ResOk P L hs r1 v1) (hE : ∃ rest, Ent hs (Post v1) rest) : G w0 n L hs F (bodyQ P fn Post w0 F e) := fun a w s =>
  bodyQ_of he s (run_ret1 hr (h1 a.tmps w F s.env s.holds)) hE
theorem G.ret2 {e : Exit} (he : e = .normal ∨ e = .ret) {r1 r2 : ResultVar} {v1 v2 : Value} (hr : fn.results = #[r1, r2]) (h1 : ResOk P L hs r1 v1) (h2 : ResOk P L hs r2 v2) (hE : ∃ rest, Ent hs (Post (.tuple #[v1, v2])) rest) :
    G w0 n L hs F (bodyQ P fn Post w0 F e) := fun a w s =>
  bodyQ_of he s (run_ret2 hr (h1 a.tmps w F s.env s.holds) (h2 a.tmps w F s.env s.holds)) hE
theorem G.ret3 {e : Exit} (he : e = .normal ∨ e = .ret) {r1 r2 r3 : ResultVar} {v1 v2 v3 : Value} (hr : fn.results = #[r1, r2, r3]) (h1 : ResOk P L hs r1 v1) (h2 : ResOk P L hs r2 v2) (h3 : ResOk P L hs r3 v3)
    (hE : ∃ rest, Ent hs (Post (.tuple #[v1, v2, v3])) rest) : G w0 n L hs F (bodyQ P fn Post w0 F e) := fun a w s =>
  bodyQ_of he s (run_ret3 hr (h1 a.tmps w F s.env s.holds) (h2 a.tmps w F s.env s.holds) (h3 a.tmps w F s.env s.holds)) hE
theorem G.ret4 {e : Exit} (he : e = .normal ∨ e = .ret) {r1 r2 r3 r4 : ResultVar} {v1 v2 v3 v4 : Value} (hr : fn.results = #[r1, r2, r3, r4]) (h1 : ResOk P L hs r1 v1) (h2 : ResOk P L hs r2 v2) (h3 : ResOk P L hs r3 v3) (h4 : ResOk P L hs r4 v4)
    (hE : ∃ rest, Ent hs (Post (.tuple #[v1, v2, v3, v4])) rest) : G w0 n L hs F (bodyQ P fn Post w0 F e) := fun a w s =>
  bodyQ_of he s (run_ret4 hr (h1 a.tmps w F s.env s.holds) (h2 a.tmps w F s.env s.holds) (h3 a.tmps w F s.env s.holds) (h4 a.tmps w F s.env s.holds)) hE
end
end Go.Sl
namespace Go.Sl
open Go
section
variable {P : Program} {w0 : World} {n : Nat} {L : Env} {hs : List HProp} {F : HProp} {Q : Exit → Act → World → Prop}
/-- where several ways meet again -/
def cutQ (w0 : World) (n : Nat) (M : Env) (hs : List HProp) (F : HProp) : Exit → Act → World → Prop
  | .normal, a, w => St w0 n M hs F a w
  | _, _, _ => False
theorem G.cutB {c : Code} {k : List Code} {t : Nat} {v : Value} {M : Env} (hk : Keep L M) (h1 : G w0 n L hs F (seqs P [c] (cutQ w0 n ((t, v) :: M) hs F))) (h2 : G w0 n ((t, v) :: M) hs F (seqs P k Q)) :
    G w0 n L hs F (seqs P (c :: k) Q) := fun a w s => by
  have := h1 a w s
  simp only [seqs] at this ⊢
  refine Code.wp_mono ?_ this
  intro e a w q
  cases e <;> first | exact h2 a w q | exact q.elim
/-- the same with whatever state behind -/
theorem G.cutX {X : Type} {c : Code} {k : List Code} (M : X → Env) (hs2 : X → List HProp) (h1 : G w0 n L hs F (seqs P [c] fun e a w => e = .normal ∧ ∃ x, St w0 n (M x) (hs2 x) F a w)) (h2 : ∀ x, G w0 n (M x) (hs2 x) F (seqs P k Q)) :
    G w0 n L hs F (seqs P (c :: k) Q) := fun a w s => by
  have := h1 a w s
  simp only [seqs] at this ⊢
  refine Code.wp_mono ?_ this
  intro e a w q
  cases e with
  | normal => rcases q with ⟨_, x, hx⟩; exact h2 x a w hx
  | _ => cases q.1
theorem Keep.as {t : Nat} {u v : Value} {M : Env} (h : L.get t = some u) (e : u = v) (r : Keep L M) : Keep L ((t, v) :: M) := .cons (e ▸ h) r
theorem G.cutEnd {M : Env} {hs' rest : List HProp} (hk : Keep L M) (hp : Picks hs hs' rest) : G w0 n L hs F (cutQ w0 n M hs' F .normal) := fun a w s =>
  ⟨s.size, s.defers, fun t v hv => s.env t v (hk.get t v hv), s.same, (s.holds.mono hp.to).drops⟩
theorem G.cutXEnd {X : Type} {M : X → Env} {hs2 : X → List HProp} {rest : List HProp} (x : X) (hk : Keep L (M x)) (hp : Ents hs (hs2 x) rest) : G w0 n L hs F (fun a w => Exit.normal = .normal ∧ ∃ x, St w0 n (M x) (hs2 x) F a w) := fun a w s =>
  ⟨rfl, x, s.size, s.defers, fun t v hv => s.env t v (hk.get t v hv), s.same, (s.holds.mono hp.to).drops⟩
/-- a round's end, whatever the atoms' words -/
theorem G.againE {X : Type} {Li : X → Env} {Hi : X → List HProp} {m : X → Nat} {x : X} (x' : X) (hm : m x' < m x) (hk : Keep L (Li x')) {rest : List HProp} (hp : Ents hs (Hi x') rest) :
    G w0 n L hs F (Again w0 n F Li Hi m x) := fun a w s =>
  ⟨x', hm, s.size, s.defers, fun t v hv => s.env t v (hk.get t v hv), s.same, (s.holds.mono hp.to).drops⟩
theorem G.loopE {X : Type} {c : Code} {k : List Code} (Li : X → Env) (Hi : X → List HProp) (m : X → Nat) (x0 : X) (hk : Keep L (Li x0)) {rest : List HProp} (hp : Ents hs (Hi x0) rest)
    (round : ∀ x, G w0 n (Li x) (Hi x) (Hs rest F) (seqs P [c] (Exit.then (Again w0 n (Hs rest F) Li Hi m x) (Exit.then (seqs P k Q) Q)))) :
    G w0 n L hs F (seqs P (.loop c :: k) Q) := G.ents hp (G.loop Li Hi m x0 (L := L) hk (rest := []) (Picks.refl _) round)
end
end Go.Sl
namespace Go.Sl
open Go
theorem aggAt {vs cs : List Value} {off : Nat} (h : (vs.drop off).take cs.length = cs) : ∀ j v, cs[j]? = some v → vs[off + j]? = some v := by
  intro j v hj
  rw [← h, List.getElem?_take] at hj
  split at hj
  · rwa [List.getElem?_drop] at hj
  · cases hj
section
variable {P : Program} {L : Env} {hs : List HProp} {dst : Option Tmp} {ty : TypeId} {pos : String} {aft : Array Edge} {g : Option (Nat × Bool)}
theorem OpC.storeS {t : TypeId} {x y : Operand} {b off : Nat} {T : TypeId} {v : Value} {vs vs' : List Value} {hs' : List HProp} (hset : SetAt vs off v vs') (hsz : ∀ w, (sizeOf t).run P w = .ok 1 w)
    (hx : L.ev x = some (.pointer (some ⟨b, off, none⟩))) (hy : L.ev y = some v) (hc : isCell v = true) (hp : Pick hs (cel true b T vs) hs') :
    OpC P ⟨dst, .store t x y, ty, pos, aft, g⟩ L hs (X := Unit) (fun _ => undef) (fun _ => cel true b T vs' :: hs') :=
  OpC.store hsz hx hy hc hp hset.eq.1 hset.eq.2
end
end Go.Sl

namespace Go.Sl
open Go
/-- what holds of some blocks holds of more -/
def Mono (A : HProp) : Prop := ∀ r r', Res.sub r r' → A r → A r'
theorem Mono.pt {m : Bool} {b : Nat} {o : Obj} : Mono (Sl.pt m b o) := fun _ _ hs h => hs _ _ h
theorem Mono.cel {m : Bool} {b : Nat} {T : TypeId} {vs : List Value} : Mono (Sl.cel m b T vs) := fun _ _ hs ⟨fr, hf, h⟩ => ⟨fr, hf, hs _ _ h⟩
theorem Mono.emp : Mono Sl.emp := fun _ _ _ _ => trivial
theorem Mono.lift {φ : Prop} : Mono (Sl.lift φ) := fun _ _ _ h => h
theorem Mono.ex {α : Type} {A : α → HProp} (h : ∀ x, Mono (A x)) : Mono (Sl.ex A) := fun r r' hs ⟨x, hx⟩ => ⟨x, h x r r' hs hx⟩
theorem Mono.star {A B : HProp} (ha : Mono A) : Mono (Sl.star A B) := by
  rintro r r' hs ⟨r1, r2, hok, rfl, h1, h2⟩
  refine ⟨fun b => match r2 b with | none => r' b | some _ => r1 b, r2, ?_, ?_, ha r1 _ ?_ h1, h2⟩
  · intro b x y hx hy
    simp only [hy] at hx
    exact hok b x y hx hy
  · funext b
    show r' b = (match r2 b with | none => r' b | some _ => r1 b).or (r2 b)
    cases hb : r2 b with
    | none => simp
    | some y =>
      cases hr : r1 b with
      | none => exact hs b y (Res.add_right hok hb)
      | some x => exact hs b x (Res.add_left hr)
  · intro b x hx
    show (match r2 b with | none => r' b | some _ => r1 b) = some x
    cases hb : r2 b with
    | none => exact hs b x (Res.add_left hx)
    | some y => exact hx
theorem star_unemp {A : HProp} (ha : Mono A) {r : Res} (h : star emp A r) : A r := by
  obtain ⟨r1, r2, hok, rfl, _, h2⟩ := h
  exact ha r2 _ (fun b x hx => Res.add_right hok hx) h2
theorem star_unlift {φ : Prop} {A : HProp} (ha : Mono A) {r : Res} (h : star (lift φ) A r) : φ ∧ A r := by
  obtain ⟨r1, r2, hok, rfl, h1, h2⟩ := h
  exact ⟨h1, ha r2 _ (fun b x hx => Res.add_right hok hx) h2⟩
end Go.Sl
namespace Go.Sl
open Go
/-- two lists of atoms, one behind the other -/
inductive App : List HProp → List HProp → List HProp → Prop
  | nil {l : List HProp} : App [] l l
  | cons {A : HProp} {l m k : List HProp} (h : App l m k) : App (A :: l) m (A :: k)
theorem App.eq {l m k : List HProp} (h : App l m k) : l ++ m = k := by
  induction h with
  | nil => rfl
  | cons _ ih => simp [ih]
/-- behind a loop: what lay in its frame lies at hand again -/
theorem G.unframe {w0 : World} {n : Nat} {L : Env} {hs rest all : List HProp} {F : HProp} {k : Act → World → Prop} (ha : App hs rest all) (h : G w0 n L all F k) : G w0 n L hs (Hs rest F) k := fun a w s =>
  h a w ⟨s.size, s.defers, s.env, s.same, by rw [← ha.eq, Hs_append]; exact s.holds⟩
end Go.Sl
