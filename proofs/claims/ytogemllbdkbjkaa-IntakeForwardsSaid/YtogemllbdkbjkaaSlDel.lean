/- Entries taken out of maps; what a map that isn't there holds. -/
import Derived.Test.YtogemllbdkbjkaaSlElem
set_option linter.unusedVariables false
set_option linter.unusedSimpArgs false
namespace Go.Sl
open Go
section
variable {κ : Type} [DecidableEq κ]
theorem eraseIdx_map' {α β : Type} (f : α → β) : ∀ (l : List α) (i : Nat), (l.map f).eraseIdx i = (l.eraseIdx i).map f
  | [], _ => rfl
  | _ :: _, 0 => rfl
  | a :: l, i + 1 => by simp only [List.map_cons, List.eraseIdx_cons_succ, eraseIdx_map' f l i]
theorem adel_none : ∀ (l : List (κ × Value)) (k : κ) (i : Nat), aidx l k i = none → adel l k = l
  | [], _, _, _ => rfl
  | (j, v) :: l, k, i, h => by
    simp only [aidx] at h
    split at h
    · cases h
    · rename_i e; simp only [adel]; rw [if_neg e, adel_none l k (i + 1) h]
theorem adel_some : ∀ (l : List (κ × Value)) (k : κ) (i q : Nat) (u : Value), aidx l k i = some (q, u) → i ≤ q ∧ adel l k = l.eraseIdx (q - i) ∧ q - i < l.length
  | [], _, _, _, _, h => by cases h
  | (j, v) :: l, k, i, q, u, h => by
    simp only [aidx] at h
    split at h
    · rename_i e; cases h; simp [adel, e]
    · rename_i e
      obtain ⟨h1, h2, h3⟩ := adel_some l k (i + 1) q u h
      refine ⟨by omega, ?_, by simp; omega⟩
      simp only [adel]; rw [if_neg e, h2, show q - i = (q - (i + 1)) + 1 by omega]; rfl
end
section
variable {P : Program} {L : Env} {hs hs' : List HProp} {dst : Option Tmp} {ty : TypeId} {pos : String} {aft : Array Edge} {g : Option (Nat × Bool)} {κ : Type} [DecidableEq κ] {enc : κ → Value}
theorem OpC.mapDelete {x y : Operand} {r : Nat} {l : List (κ × Value)} {T K E K2 : TypeId} {k : κ} (hk : KeyLaw P K enc) (hu : ∀ w, (underlying T).run P w = .ok (.map K E) w) (hx : L.ev x = some (.map (some r))) (hy : L.ev y = some (enc k)) (hp : Pick hs (Sl.mapA enc r l) hs') :
    OpC P ⟨dst, .call ⟨.builtin .delete, #[x, y], #[T, K2]⟩, ty, pos, aft, g⟩ L hs (X := Unit) (fun _ => .tuple #[]) (fun _ => Sl.mapA enc r (adel l k) :: hs') := .of_run fun ρ w F hev hh => by
  obtain ⟨es, c, h1, h2, h3, h4⟩ := (hh.mono hp.to).mapA
  cases hx2 : aidx l k 0 with
  | none =>
    refine ⟨(), { w with heap := w.heap.setIfInBounds r (.map es c) }, ?_, ⟨rfl, rfl, rfl, by simp⟩, h4.putMap.mono fun _ => star_mono (fun q hq => ⟨es, c, by rw [adel_none l k 0 hx2]; exact h1, h2, hq⟩) (fun _ h => h)⟩
    have hrun : ∀ ty, (Builtin.delete_ #[T, K2] ty #[.map (some r), enc k]).run P w = .ok (.tuple #[]) { w with heap := w.heap.setIfInBounds r (.map es c) } := fun ty => by
      simp [Builtin.delete_, Sem.run_bind, hu, run_getObj h3, hk.check, hk.find es.toList l k w h1, hx2, run_setObj h3, Sem.run_pure]
    simp only [execOp, resolve, invoke, builtin, List.map_toArray, List.map_cons, List.map_nil, hev x _ hx, hev y _ hy, Sem.run_bind, Sem.run_pure, Result.andThen_ok, hrun]
  | some p =>
    obtain ⟨i, u⟩ := p
    obtain ⟨_, h5, h6⟩ := adel_some l k 0 i u hx2
    simp only [Nat.sub_zero] at h5 h6
    have hlen : es.toList.length = l.length := by have := congrArg List.length h1; simpa [pairs] using this
    have hie : i < es.size := by rw [← Array.length_toList, hlen]; exact h6
    have hl : (es.eraseIdxIfInBounds i).toList = es.toList.eraseIdx i := by
      rw [Array.eraseIdxIfInBounds, dif_pos hie]; simp
    refine ⟨(), { w with heap := w.heap.setIfInBounds r (.map (es.eraseIdxIfInBounds i) c) }, ?_, ⟨rfl, rfl, rfl, by simp⟩, h4.putMap.mono fun _ => star_mono (fun q hq => ⟨_, c, ?_, ⟨fun e he => ?_, ?_⟩, hq⟩) (fun _ h => h)⟩
    · have hrun : ∀ ty, (Builtin.delete_ #[T, K2] ty #[.map (some r), enc k]).run P w = .ok (.tuple #[]) { w with heap := w.heap.setIfInBounds r (.map (es.eraseIdxIfInBounds i) c) } := fun ty => by
        simp [Builtin.delete_, Sem.run_bind, hu, run_getObj h3, hk.check, hk.find es.toList l k w h1, hx2, run_setObj h3, Sem.run_pure]
      simp only [execOp, resolve, invoke, builtin, List.map_toArray, List.map_cons, List.map_nil, hev x _ hx, hev y _ hy, Sem.run_bind, Sem.run_pure, Result.andThen_ok, hrun]
    · rw [hl, h5, ← eraseIdx_map', ← h1]; simp only [pairs, eraseIdx_map']
    · have h7 : e ∈ es.toList.eraseIdx i := by rw [← hl]; exact he.val
      exact h2.1 e (by simpa using List.mem_of_mem_eraseIdx h7)
    · rw [hl, ← eraseIdx_map']
      exact List.Nodup.sublist (List.eraseIdx_sublist _ _) h2.2
theorem Yld.lookupNil {x y : Operand} {T K E : TypeId} {k : κ} {z : Value} (hk : KeyLaw P K enc) (hu : ∀ w, (underlying T).run P w = .ok (.map K E) w) (hz : ∀ w, (zeroValue E).run P w = .ok z w)
    (hx : L.ev x = some (.map none)) (hy : L.ev y = some (enc k)) : Yld P ⟨dst, .lookup T x y true, ty, pos, aft, g⟩ L hs (.tuple #[z, .bool false]) := by
  intro ρ w F hev hh
  have hf := hk.find [] [] k w rfl
  simp only [execOp, hev x _ hx, hev y _ hy, Instr.lookup, Sem.run_bind, hu, Result.andThen_ok, hk.check, Sem.run_pure, hf, aidx]
  simp [Sem.run_bind, Sem.run_pure, hz]
end
end Go.Sl
