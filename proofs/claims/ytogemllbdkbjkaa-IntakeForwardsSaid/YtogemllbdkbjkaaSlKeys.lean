/- Maps by keys that are structs. -/
import Derived.Test.YtogemllbdkbjkaaSlRange
import Derived.Laws.StructEq
set_option linter.unusedVariables false
set_option linter.unusedSimpArgs false
namespace Go.Sl
open Go
theorem findAsking_agg {P : Program} {K : TypeId} {κ : Type} [DecidableEq κ] {enc : κ → Value} (heq : ∀ k j w, (Op.equal K (enc k) (enc j)).run P w = .ok (decide (j = k)) w) :
    ∀ (es : List MapEntry) (l : List (κ × Value)) (k : κ) (i : Nat) (w : World), pairs es = l.map (fun x => (enc x.1, x.2)) → (Instr.findAsking K (enc k) es i).run P w = .ok (aidx l k i) w
  | [], [], _, _, _, _ => by simp [Instr.findAsking, aidx, Sem.run_pure]
  | [], _ :: _, _, _, _, h => by simp [pairs] at h
  | _ :: _, [], _, _, _, h => by simp [pairs] at h
  | e :: es, (j, v) :: l, k, i, w, h => by
    simp only [pairs, List.map_cons, List.cons.injEq, Prod.mk.injEq] at h
    obtain ⟨⟨h1, h2⟩, h3⟩ := h
    simp only [Instr.findAsking, Sem.run_bind, h1, heq, Result.andThen_ok, aidx]
    by_cases e1 : j = k
    · simp [e1, h2, Sem.run_pure]
    · simp only [e1, decide_false, Bool.false_eq_true, if_false]
      exact findAsking_agg heq es l k (i + 1) w h3
theorem KeyLaw.agg {P : Program} {K : TypeId} {κ : Type} [DecidableEq κ] {enc : κ → Value} {fs : Array Field} (hu : P.underlying K = some (.struct fs)) (hc : ∀ e k w, (Instr.checkKey e 10000 K (enc k)).run P w = .ok () w)
    (heq : ∀ k j w, (Op.equal K (enc k) (enc j)).run P w = .ok (decide (j = k)) w) (hst : ∀ k, Instr.sameBits 10000 (enc k) (enc k) = true) : KeyLaw P K enc where
  check := hc
  find := fun es l k w hp => by
    simp only [Instr.findKey, Sem.run_bind, run_underlying hu, Result.andThen_ok]
    cases es with
    | nil => cases l with
      | nil => simp [Instr.findNow, aidx, Sem.run_pure]
      | cons => simp [pairs] at hp
    | cons e es =>
      have : Instr.findNow (.struct fs) (enc k) (e :: es) 0 = none := by simp [Instr.findNow, Instr.sameNow]
      rw [this]
      exact findAsking_agg heq (e :: es) l k 0 w hp
  stays := hst
section
variable {P : Program} {L : Env} {hs : List HProp} {dst : Option Tmp} {ty : TypeId} {pos : String} {aft : Array Edge} {g : Option (Nat × Bool)}
theorem Yld.makeFunc {fn : Fn} {xs : List Operand} {vs : List Value} (hxs : evs L xs = some vs) : Yld P ⟨dst, .makeFunc fn #[] xs.toArray, ty, pos, aft, g⟩ L hs (.func fn #[] vs.toArray) := by
  intro ρ w F hev hh
  have e : xs.toArray.map ρ = vs.toArray := by rw [← evs_map hev xs vs hxs]; simp
  simp only [execOp, e, Instr.makeFunc, Sem.run_bind, Sem.run_pure, Result.andThen_ok, List.map_toArray, List.map_nil]
/-- a function value is called -/
theorem OpC.callV {hs' : List HProp} {t : Nat} {f : FuncId} {caps : List Value} {xs : List Operand} {T : Array TypeId} {vs vs' : List Value} {Pre : List HProp} {Post : Value → HProp} (hcall : ∀ args w, (callFunc f args).run P w = .ok (.enter f args) w)
    (hf : L.get t = some (.func (.func f) #[] caps.toArray)) (hxs : evs L xs = some vs) (hvs : vs ++ caps = vs') (hspec : Sl.Spec P f vs'.toArray Pre Post) (hp : Picks hs Pre hs') :
    OpC P ⟨dst, .call ⟨.value (.tmp t), xs.toArray, T⟩, ty, pos, aft, g⟩ L hs (X := Value) (fun x => x) (fun v => Post v :: hs') := by
  intro a w F K Q hev hh hK
  subst hvs
  have e : xs.toArray.map a.eval = vs.toArray := by rw [← evs_map hev xs vs hxs]; simp
  have e2 : a.eval (.tmp t) = .func (.func f) #[] caps.toArray := hev (.tmp t) _ hf
  have hr : (execOp a.eval ⟨dst, .call ⟨.value (.tmp t), xs.toArray, T⟩, ty, pos, aft, g⟩).run P w = .ok (.enter f (vs ++ caps).toArray) w := by
    simp only [execOp, resolve, e, e2, Deferred.ofValue, Sem.run_bind, Sem.run_pure, Result.andThen_ok, invoke, hcall, Array.append_empty, Array.empty_append, List.append_toArray, List.nil_append]
  simp only [Oper.wp, hr, Oper.upon]
  refine (hspec w (Hs hs' F) (hh.mono hp.to)).mono ?_
  rintro e w' ⟨v, rfl, hsame, hh'⟩
  exact hK v w' hsame hh'
end
section
variable {P : Program} {L : Env} {hs hs' : List HProp} {dst : Option Tmp} {ty : TypeId} {pos : String} {aft : Array Edge} {g : Option (Nat × Bool)} {κ : Type} [DecidableEq κ] {enc : κ → Value}
theorem Yld.lookupN {x y : Operand} {r : Nat} {l : List (κ × Value)} {T K E : TypeId} {k : κ} {z : Value} (hk : KeyLaw P K enc) (hu : ∀ w, (underlying T).run P w = .ok (.map K E) w) (hz : ∀ w, (zeroValue E).run P w = .ok z w)
    (hx : L.ev x = some (.map (some r))) (hy : L.ev y = some (enc k)) (hp : Pick hs (Sl.mapA enc r l) hs') (hl : alook l k = none) : Yld P ⟨dst, .lookup T x y true, ty, pos, aft, g⟩ L hs (.tuple #[z, .bool false]) := by
  have := Yld.lookup2 (dst := dst) (ty := ty) (pos := pos) (aft := aft) (g := g) hk hu hz hx hy hp
  rw [hl] at this; exact this
theorem Yld.lookupS {x y : Operand} {r : Nat} {l : List (κ × Value)} {T K E : TypeId} {k : κ} {z v : Value} (hk : KeyLaw P K enc) (hu : ∀ w, (underlying T).run P w = .ok (.map K E) w) (hz : ∀ w, (zeroValue E).run P w = .ok z w)
    (hx : L.ev x = some (.map (some r))) (hy : L.ev y = some (enc k)) (hp : Pick hs (Sl.mapA enc r l) hs') (hl : alook l k = some v) : Yld P ⟨dst, .lookup T x y true, ty, pos, aft, g⟩ L hs (.tuple #[v, .bool true]) := by
  have := Yld.lookup2 (dst := dst) (ty := ty) (pos := pos) (aft := aft) (g := g) hk hu hz hx hy hp
  rw [hl] at this; exact this
theorem nodup_lt : ∀ (n : Nat) (is : List Nat), is.Nodup → (∀ i ∈ is, i < n) → is.length ≤ n
  | 0, is, _, h => by cases is with
    | nil => simp
    | cons a l => exact absurd (h a (by simp)) (by omega)
  | n + 1, is, hn, h => by
    by_cases hm : n ∈ is
    · have h1 := List.length_erase_of_mem hm
      have h2 := nodup_lt n (is.erase n) (hn.erase n) fun i hi => by
        have h3 := h i (List.mem_of_mem_erase hi)
        have h4 : i ≠ n := fun e => by subst e; exact List.Nodup.not_mem_erase hn hi
        omega
      omega
    · have := nodup_lt n is hn fun i hi => by
        have h3 := h i hi
        have h4 : i ≠ n := fun e => hm (e ▸ hi)
        omega
      omega
omit [DecidableEq κ] in
theorem mapR_len {r b : Nat} {l : List (κ × Value)} {is : List Nat} : ∀ q, mapR enc r b l is q → is.length ≤ l.length := fun q ⟨es, c, seen, _, _, h5, h6, _, _⟩ => nodup_lt _ _ h6 h5
end
section
variable {w0 : World} {n : Nat} {L : Env} {hs : List HProp} {F : HProp}
/-- what a temporary holds is split on -/
theorem G.splitX {t : Nat} {x : Bool} {k : Act → World → Prop} (hc : L.get t = some (.bool x)) (h1 : x = true → G w0 n ((t, .bool true) :: L) hs F k) (h2 : x = false → G w0 n ((t, .bool false) :: L) hs F k) : G w0 n L hs F k := by
  refine G.splitB (p := x = true) (t := t) (by rw [hc]; simp) h1 fun h => h2 (by simpa using h)
end
end Go.Sl
