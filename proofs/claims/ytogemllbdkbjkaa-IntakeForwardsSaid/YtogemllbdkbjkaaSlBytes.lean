/- Bytes out of letters: the row of a literal is marked by its conversion, and shared from then on. -/
import Derived.Test.YtogemllbdkbjkaaSlSub
set_option linter.unusedVariables false
set_option linter.unusedSimpArgs false
namespace Go.Sl
open Go
section
variable {P : Program} {L : Env} {hs hs' : List HProp} {dst : Option Tmp} {ty : TypeId} {pos : String} {aft : Array Edge} {g : Option (Nat × Bool)}
theorem OpC.convBytes {t e : TypeId} {x : Operand} {b off n cap : Nat} {T : TypeId} {vs : List Value} (ht : P.underlying t = some (.slice e)) (he : P.underlying e = some (.int .u8)) (hx : L.ev x = some (.slice (some ⟨b, off, none⟩) n cap)) (hp : Pick hs (Sl.cel true b T vs) hs') :
    OpC P ⟨dst, .convert t t x, ty, pos, aft, g⟩ L hs (X := Unit) (fun _ => .slice (some ⟨b, off, none⟩) n cap) (fun _ => Sl.cel false b T vs :: hs') := .of_run fun ρ w F hev hh => by
  obtain ⟨q, hq, q1, q2, hok, heq, ⟨fr, hfr, hcb⟩, hF⟩ := hh.mono hp.to
  obtain rfl := hfr rfl
  have h4 : Holds w (star (Sl.pt true b (.cells vs.toArray T (0, 0))) (Hs hs' F)) := ⟨q, hq, q1, q2, hok, heq, hcb, hF⟩
  have hb := h4.left.pt
  have hlt : b < w.heap.size := (Array.getElem?_eq_some_iff.1 hb).1
  refine ⟨(), w.freeze ⟨b, vs.length, none⟩ 1, ?_, ⟨?_, ?_, ?_, ?_⟩, ?_⟩
  · have hsh : w.shape? b = some (T, vs.toArray.size) := by unfold World.shape?; rw [hb]
    simp only [execOp, hev x _ hx, convert, Sem.run_bind, run_underlying ht, run_underlying he, Result.andThen_ok, beq_self_eq_true, markStringish, Sem.run_pure]
    simp [hsh, Sem.run, shape, freeze, Sem.bind, Result.andThen]
  · simp [World.freeze]
  · simp [World.freeze]
  · simp [World.freeze]
  · simp [World.freeze]
  · have h5 : Holds (w.freeze ⟨b, vs.length, none⟩ 1) (star (Sl.pt true b (.cells vs.toArray T (vs.length, vs.length + 1))) (Hs hs' F)) := by
      refine h4.put fun k => ?_
      simp only [World.freeze, Nat.one_ne_zero, if_false, Array.getElem?_modify]
      by_cases hk : b = k
      · subst hk; simp [hb]
      · have hk' : ¬ k = b := fun e => hk e.symm
        simp [hk, hk']
    exact h5.share.mono fun _ => star_mono (fun r hr => ⟨(vs.length, vs.length + 1), by simp, hr⟩) (fun _ h => h)
end
theorem star_left {A B : HProp} (ha : Mono A) {r : Res} (h : star A B r) : A r := by
  obtain ⟨r1, r2, hok, rfl, h1, _⟩ := h
  exact ha r1 _ (fun b x hx => Res.add_left hx) h1
end Go.Sl
