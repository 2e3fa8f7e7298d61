/- Maps that are had alone: a list of keys with values, in the order in which they came. -/
import Derived.Test.YtogemllbdkbjkaaSlEq
set_option linter.unusedVariables false
set_option linter.unusedSimpArgs false
namespace Go.Sl
open Go
def alook {κ : Type} [DecidableEq κ] : List (κ × Value) → κ → Option Value
  | [], _ => none
  | (j, v) :: l, k => if j = k then some v else alook l k
def aidx {κ : Type} [DecidableEq κ] : List (κ × Value) → κ → Nat → Option (Nat × Value)
  | [], _, _ => none
  | (j, v) :: l, k, i => if j = k then some (i, v) else aidx l k (i + 1)
def aset {κ : Type} [DecidableEq κ] : List (κ × Value) → κ → Value → List (κ × Value)
  | [], k, v => [(k, v)]
  | (j, u) :: l, k, v => if j = k then (k, v) :: l else (j, u) :: aset l k v
def adel {κ : Type} [DecidableEq κ] : List (κ × Value) → κ → List (κ × Value)
  | [], _ => []
  | (j, u) :: l, k => if j = k then l else (j, u) :: adel l k
theorem aidx_look {κ : Type} [DecidableEq κ] : ∀ (l : List (κ × Value)) (k : κ) (i : Nat), alook l k = (aidx l k i).map (·.2)
  | [], _, _ => rfl
  | (j, v) :: l, k, i => by
    simp only [alook, aidx]; split
    · rfl
    · exact aidx_look l k (i + 1)
theorem aidx_shift {κ : Type} [DecidableEq κ] : ∀ (l : List (κ × Value)) (k : κ) (i : Nat), aidx l k (i + 1) = (aidx l k i).map fun x => (x.1 + 1, x.2)
  | [], _, _ => rfl
  | (j, v) :: l, k, i => by
    simp only [aidx]; split
    · rfl
    · exact aidx_shift l k (i + 1)
theorem aidx_some {κ : Type} [DecidableEq κ] {u : Value} : ∀ (l : List (κ × Value)) (k : κ) (i : Nat) (v : Value), aidx l k 0 = some (i, v) → l[i]? = some (k, v) ∧ aset l k u = l.set i (k, u) ∧ adel l k = l.eraseIdx i
  | [], _, _, _, h => by cases h
  | (j, w) :: l, k, i, v, h => by
    simp only [aidx] at h
    split at h
    · rename_i e; cases h; subst e; simp [aset, adel]
    · rename_i e
      rw [aidx_shift] at h
      cases hx : aidx l k 0 with
      | none => rw [hx] at h; cases h
      | some x =>
        rw [hx] at h
        obtain ⟨i', v'⟩ := x
        simp only [Option.map_some, Option.some.injEq, Prod.mk.injEq] at h
        obtain ⟨rfl, rfl⟩ := h
        obtain ⟨h1, h2, h3⟩ := aidx_some l k i' v' hx (u := u)
        simp [aset, adel, e, h1, h2, h3]
theorem aidx_none {κ : Type} [DecidableEq κ] {u : Value} : ∀ (l : List (κ × Value)) (k : κ) (i : Nat), aidx l k i = none → aset l k u = l ++ [(k, u)] ∧ adel l k = l
  | [], _, _, _ => by simp [aset, adel]
  | (j, w) :: l, k, i, h => by
    simp only [aidx] at h
    split at h
    · cases h
    · rename_i e
      obtain ⟨h1, h2⟩ := aidx_none l k (i + 1) h (u := u)
      simp [aset, adel, e, h1, h2]
def pairs (es : List MapEntry) : List (Value × Value) := es.map fun e => (e.key, e.val)
/-- what the model does with keys of this type -/
structure KeyLaw (P : Program) (K : TypeId) {κ : Type} [DecidableEq κ] (enc : κ → Value) : Prop where
  check : ∀ e k w, (Instr.checkKey e 10000 K (enc k)).run P w = .ok () w
  find : ∀ (es : List MapEntry) (l : List (κ × Value)) (k : κ) (w : World), pairs es = l.map (fun x => (enc x.1, x.2)) → (Instr.findKey K (enc k) es).run P w = .ok (aidx l k 0) w
  stays : ∀ k, Instr.sameBits 10000 (enc k) (enc k) = true
theorem findNow_int {kd : IntKind} : ∀ (es : List MapEntry) (l : List (Int × Value)) (k : Int) (i : Nat), pairs es = l.map (fun x => (Value.int kd x.1, x.2)) → Instr.findNow (.int kd) (.int kd k) es i = some (aidx l k i)
  | [], [], _, _, _ => rfl
  | [], _ :: _, _, _, h => by simp [pairs] at h
  | _ :: _, [], _, _, h => by simp [pairs] at h
  | e :: es, (j, v) :: l, k, i, h => by
    simp only [pairs, List.map_cons, List.cons.injEq, Prod.mk.injEq] at h
    obtain ⟨⟨h1, h2⟩, h3⟩ := h
    simp only [Instr.findNow, h1, Instr.sameNow, if_true, aidx]
    by_cases e1 : k = j
    · subst e1; simp [h2]
    · have e2 : (k == j) = false := by simpa using e1
      have e3 : ¬ j = k := fun h => e1 h.symm
      simp only [e2, e3, if_false]
      exact findNow_int es l k (i + 1) h3
theorem checkKey_int {P : Program} {K : TypeId} {kd : IntKind} (h : P.underlying K = some (.int kd)) (e : Bool) (n : Nat) (k : Int) (w : World) : (Instr.checkKey e (n + 1) K (.int kd k)).run P w = .ok () w := by
  simp only [Instr.checkKey, Sem.run_bind, run_underlying h, Result.andThen_ok, Sem.run_pure]
theorem sameBits_int (n : Nat) (kd : IntKind) (k : Int) : Instr.sameBits n (.int kd k) (.int kd k) = true := by cases n <;> simp [Instr.sameBits]
theorem KeyLaw.int {P : Program} {K : TypeId} {kd : IntKind} (h : P.underlying K = some (.int kd)) : KeyLaw P K (fun k : Int => Value.int kd k) where
  check := fun e k w => checkKey_int h e 9999 k w
  find := fun es l k w hp => by
    simp only [Instr.findKey, Sem.run_bind, run_underlying h, Result.andThen_ok, findNow_int es l k 0 hp, Sem.run_pure]
  stays := fun k => sameBits_int _ kd k
def MapOk (es : Array MapEntry) (clock : Nat) : Prop := (∀ e ∈ es, e.born < clock) ∧ (es.toList.map (·.born)).Nodup
/-- a map in memory -/
def mapA {κ : Type} (enc : κ → Value) (r : Nat) (l : List (κ × Value)) : HProp := fun q =>
  ∃ es clock, pairs es.toList = l.map (fun x => (enc x.1, x.2)) ∧ MapOk es clock ∧ pt true r (.map es clock) q
theorem Mono.mapA {κ : Type} {enc : κ → Value} {r : Nat} {l : List (κ × Value)} : Mono (Sl.mapA enc r l) := fun _ _ hs ⟨es, c, h1, h2, h3⟩ => ⟨es, c, h1, h2, Mono.pt _ _ hs h3⟩
theorem mapA_new {κ : Type} {enc : κ → Value} {r : Nat} {q : Res} (h : pt true r (.map #[] 0) q) : mapA enc r [] q := ⟨#[], 0, rfl, ⟨by simp, by simp⟩, h⟩
section
variable {P : Program} {L : Env} {hs hs' : List HProp} {dst : Option Tmp} {ty : TypeId} {pos : String} {aft : Array Edge} {g : Option (Nat × Bool)} {κ : Type} [DecidableEq κ] {enc : κ → Value}
omit [DecidableEq κ] in
theorem Holds.mapA {w : World} {r : Nat} {l : List (κ × Value)} {F : HProp} (h : Holds w (star (Sl.mapA enc r l) F)) : ∃ es clock, pairs es.toList = l.map (fun x => (enc x.1, x.2)) ∧ MapOk es clock ∧ w.heap[r]? = some (.map es clock) ∧ Holds w (star (Sl.pt true r (.map es clock)) F) := by
  obtain ⟨q, hq, q1, q2, hok, he, ⟨es, c, h1, h2, h3⟩, hF⟩ := h
  have h4 : Holds w (star (Sl.pt true r (.map es c)) F) := ⟨q, hq, q1, q2, hok, he, h3, hF⟩
  exact ⟨es, c, h1, h2, h4.left.pt, h4⟩
theorem run_getObj {w : World} {r : Nat} {es : Array MapEntry} {c : Nat} (h : w.heap[r]? = some (.map es c)) : (getObj r).run P w = .ok (.map es c) w := by simp [getObj, Sem.run, h]
theorem Holds.putMap {w : World} {r : Nat} {o o' : Obj} {F : HProp} (h : Holds w (star (Sl.pt true r o) F)) : Holds { w with heap := w.heap.setIfInBounds r o' } (star (Sl.pt true r o') F) := by
  refine h.put fun k => ?_
  have hb := h.left.pt
  simp only [Array.getElem?_setIfInBounds]
  by_cases hk : r = k
  · subst hk
    have : r < w.heap.size := (Array.getElem?_eq_some_iff.1 hb).1
    simp [this]
  · rw [if_neg hk, if_neg (fun e => hk e.symm)]
theorem run_setObj {w : World} {r : Nat} {es es' : Array MapEntry} {c c' : Nat} (h : w.heap[r]? = some (.map es c)) : (setObj r (.map es' c')).run P w = .ok () { w with heap := w.heap.setIfInBounds r (.map es' c') } := by simp [setObj, Sem.run, h]
omit [DecidableEq κ] in
theorem pairs_get {es : List MapEntry} {l : List (κ × Value)} (hp : pairs es = l.map (fun x => (enc x.1, x.2))) {i : Nat} {x : κ × Value} (h : l[i]? = some x) : ∃ e, es[i]? = some e ∧ e.key = enc x.1 ∧ e.val = x.2 := by
  have : (pairs es)[i]? = some (enc x.1, x.2) := by rw [hp]; simp [h]
  simp only [pairs, List.getElem?_map, Option.map_eq_some_iff] at this
  obtain ⟨e, he, h2⟩ := this
  simp only [Prod.mk.injEq] at h2
  exact ⟨e, he, h2.1, h2.2⟩
theorem mapA_update {w : World} {r : Nat} {l : List (κ × Value)} {F : HProp} {T K E : TypeId} (hk : KeyLaw P K enc) (hu : ∀ w, (underlying T).run P w = .ok (.map K E) w) (h : Holds w (star (Sl.mapA enc r l) F)) (k : κ) (v : Value) :
    ∃ w', (Instr.mapUpdate T (.map (some r)) (enc k) v).run P w = .ok () w' ∧ Same w w' ∧ Holds w' (star (Sl.mapA enc r (aset l k v)) F) := by
  obtain ⟨es, c, h1, h2, h3, h4⟩ := h.mapA
  cases hx : aidx l k 0 with
  | none =>
    refine ⟨{ w with heap := w.heap.setIfInBounds r (.map (es.push { key := enc k, val := v, born := c }) (c + 1)) }, ?_, ⟨rfl, rfl, rfl, by simp⟩, h4.putMap.mono fun _ => star_mono (fun q hq => ⟨_, _, ?_, ?_, hq⟩) (fun _ h => h)⟩
    · simp only [Instr.mapUpdate, Sem.run_bind, hu, Result.andThen_ok, run_getObj h3, hk.check, hk.find es.toList l k w h1, hx, run_setObj h3]
    · rw [(aidx_none (u := v) l k 0 hx).1]
      simp only [pairs, Array.toList_push, List.map_append, List.map_cons, List.map_nil] at h1 ⊢
      rw [h1]
    · refine ⟨fun e he => ?_, ?_⟩
      · rcases Array.mem_push.1 he with h | h
        · have := h2.1 e h; omega
        · subst h; simp
      · simp only [Array.toList_push, List.map_append, List.map_cons, List.map_nil]
        rw [List.nodup_append]
        refine ⟨h2.2, by simp, ?_⟩
        intro a ha b hb
        simp only [List.mem_singleton] at hb
        subst hb
        obtain ⟨e, he, rfl⟩ := List.mem_map.1 ha
        have := h2.1 e (by simpa using he)
        omega
  | some x =>
    obtain ⟨i, u⟩ := x
    obtain ⟨hi, hset, _⟩ := aidx_some (u := v) l k i u hx
    obtain ⟨e, he, hek, hev⟩ := pairs_get h1 hi
    have he' : es[i]? = some e := by simpa using he
    refine ⟨{ w with heap := w.heap.setIfInBounds r (.map (es.modify i fun e => { e with key := enc k, val := v }) c) }, ?_, ⟨rfl, rfl, rfl, by simp⟩, h4.putMap.mono fun _ => star_mono (fun q hq => ⟨_, _, ?_, ?_, hq⟩) (fun _ h => h)⟩
    · have hst : (Instr.keyThatStays (enc k) (enc k)).run P w = .ok (enc k) w := by simp [Instr.keyThatStays, hk.stays, Sem.run_pure]
      simp only [Instr.mapUpdate, Sem.run_bind, hu, Result.andThen_ok, run_getObj h3, hk.check, hk.find es.toList l k w h1, hx, he', Option.map_some, Option.getD_some, hek, hst, run_setObj h3]
    · rw [hset]
      have hlt : i < es.toList.length := by
        have := (List.getElem?_eq_some_iff.1 he).1; exact this
      apply List.ext_getElem?
      intro j
      have hj : (pairs es.toList)[j]? = (l.map (fun x => (enc x.1, x.2)))[j]? := by rw [h1]
      simp only [pairs, List.getElem?_map, Array.toList_modify] at hj ⊢
      simp only [List.getElem?_set, List.getElem?_modify]
      by_cases hij : i = j
      · subst hij
        have hl2 : i < l.length := (List.getElem?_eq_some_iff.1 hi).1
        simp [he, hl2]
      · simp only [hij, if_false]
        simpa using hj
    · refine ⟨fun f hf => ?_, ?_⟩
      · have hf' : f ∈ (es.modify i fun e => { e with key := enc k, val := v }).toList := hf.val
        rw [Array.toList_modify] at hf'
        obtain ⟨j, hj, hjf⟩ := List.getElem_of_mem hf'
        have : (es.toList.modify i fun e => { e with key := enc k, val := v })[j]? = some f := by rw [List.getElem?_eq_getElem hj, hjf]
        rw [List.getElem?_modify] at this
        cases hq : es.toList[j]? with
        | none => rw [hq] at this; simp at this
        | some e0 =>
          rw [hq] at this
          have hm : e0 ∈ es := by have := List.mem_of_getElem? hq; simpa using this
          have hb := h2.1 e0 hm
          simp only [Option.map_eq_map, Option.map_some, Option.some.injEq] at this
          split at this <;> (subst this; exact hb)
      · have : ((es.modify i fun e => { e with key := enc k, val := v }).toList.map (·.born)) = es.toList.map (·.born) := by
          rw [Array.toList_modify]
          apply List.ext_getElem?
          intro j
          simp only [List.getElem?_map, List.getElem?_modify]
          cases es.toList[j]? <;> simp
          split <;> rfl
        rw [this]; exact h2.2
theorem OpC.mapUpdate {x y z : Operand} {r : Nat} {l : List (κ × Value)} {T K E : TypeId} {k : κ} {v : Value} (hk : KeyLaw P K enc) (hu : ∀ w, (underlying T).run P w = .ok (.map K E) w)
    (hx : L.ev x = some (.map (some r))) (hy : L.ev y = some (enc k)) (hz : L.ev z = some v) (hp : Pick hs (Sl.mapA enc r l) hs') :
    OpC P ⟨dst, .mapUpdate T x y z, ty, pos, aft, g⟩ L hs (X := Unit) (fun _ => undef) (fun _ => Sl.mapA enc r (aset l k v) :: hs') := .of_skip fun ρ w F hev hh => by
  obtain ⟨w', h1, h2, h3⟩ := mapA_update hk hu (hh.mono hp.to) k v
  refine ⟨(), w', ?_, h2, h3⟩
  simp only [execOp, hev x _ hx, hev y _ hy, hev z _ hz, Sem.run_bind, h1, Result.andThen_ok, Sem.run_pure]
theorem Yld.lookup {x y : Operand} {r : Nat} {l : List (κ × Value)} {T K E : TypeId} {k : κ} {z : Value} (hk : KeyLaw P K enc) (hu : ∀ w, (underlying T).run P w = .ok (.map K E) w) (hz : ∀ w, (zeroValue E).run P w = .ok z w)
    (hx : L.ev x = some (.map (some r))) (hy : L.ev y = some (enc k)) (hp : Pick hs (Sl.mapA enc r l) hs') : Yld P ⟨dst, .lookup T x y false, ty, pos, aft, g⟩ L hs ((alook l k).getD z) := by
  intro ρ w F hev hh
  obtain ⟨es, c, h1, h2, h3, h4⟩ := (hh.mono hp.to).mapA
  rw [aidx_look l k 0]
  simp only [execOp, hev x _ hx, hev y _ hy, Instr.lookup, Sem.run_bind, hu, Result.andThen_ok, run_getObj h3, hk.check, hk.find es.toList l k w h1, Sem.run_pure]
  cases aidx l k 0 <;> simp [Sem.run_bind, Sem.run_pure, hz]
theorem Yld.lookup2 {x y : Operand} {r : Nat} {l : List (κ × Value)} {T K E : TypeId} {k : κ} {z : Value} (hk : KeyLaw P K enc) (hu : ∀ w, (underlying T).run P w = .ok (.map K E) w) (hz : ∀ w, (zeroValue E).run P w = .ok z w)
    (hx : L.ev x = some (.map (some r))) (hy : L.ev y = some (enc k)) (hp : Pick hs (Sl.mapA enc r l) hs') : Yld P ⟨dst, .lookup T x y true, ty, pos, aft, g⟩ L hs (.tuple #[(alook l k).getD z, .bool (alook l k).isSome]) := by
  intro ρ w F hev hh
  obtain ⟨es, c, h1, h2, h3, h4⟩ := (hh.mono hp.to).mapA
  rw [aidx_look l k 0]
  simp only [execOp, hev x _ hx, hev y _ hy, Instr.lookup, Sem.run_bind, hu, Result.andThen_ok, run_getObj h3, hk.check, hk.find es.toList l k w h1, Sem.run_pure]
  cases aidx l k 0 <;> simp [Sem.run_bind, Sem.run_pure, hz]
end
end Go.Sl
namespace Go.Sl
open Go
section
variable {w0 : World} {n : Nat} {L : Env} {hs : List HProp} {F : HProp} {k : Act → World → Prop} {A B C D E : HProp}
theorem Hs.star2 : ∀ r, Hs (star A B :: hs) F r → Hs (A :: B :: hs) F r := fun _ h => star_assoc h
theorem Hs.star3 : ∀ r, Hs (star A (star B C) :: hs) F r → Hs (A :: B :: C :: hs) F r := fun _ h => star_mono (fun _ h => h) (fun _ h => star_assoc h) (star_assoc h)
theorem Hs.star4 : ∀ r, Hs (star A (star B (star C D)) :: hs) F r → Hs (A :: B :: C :: D :: hs) F r := fun _ h =>
  star_mono (fun _ h => h) (fun _ h => star_mono (fun _ h => h) (fun _ h => star_assoc h) (star_assoc h)) (star_assoc h)
theorem G.star3 (h : G w0 n L (A :: B :: C :: hs) F k) : G w0 n L (Sl.star A (Sl.star B C) :: hs) F k := G.imp (hs' := A :: B :: C :: hs) Hs.star3 h
theorem G.star4 (h : G w0 n L (A :: B :: C :: D :: hs) F k) : G w0 n L (Sl.star A (Sl.star B (Sl.star C D)) :: hs) F k := G.imp (hs' := A :: B :: C :: D :: hs) Hs.star4 h
/-- an atom in other words -/
theorem G.conv {A' : HProp} {hs' : List HProp} (hp : Pick hs A hs') (hi : ∀ r, A r → A' r) (h : G w0 n L (A' :: hs') F k) : G w0 n L hs F k :=
  G.imp (hs' := A' :: hs') (fun r hr => star_mono hi (fun _ h => h) (hp.to r hr)) h
theorem Ent.conv {A' : HProp} {hs m k : List HProp} {Z : HProp} (hp : Pick hs A m) (hi : ∀ r, A r → A' r) (h : Ent (A' :: m) Z k) : Ent hs Z k := fun F r hr => h F r (star_mono hi (fun _ h => h) (hp.to r hr))
theorem Ent.imp3 {hs m k l : List HProp} {Z : HProp} (h1 : Ent hs A m) (h2 : Ent m B k) (h3 : Ent k C l) (hi : ∀ r, Sl.star A (Sl.star B C) r → Z r) : Ent hs Z l := (Ent.star h1 (Ent.star h2 h3)).imp hi
end
end Go.Sl
