/- Parts of slices; max and min of two numbers. -/
import Derived.Test.YtogemllbdkbjkaaSlKeys
set_option linter.unusedVariables false
set_option linter.unusedSimpArgs false
namespace Go.Sl
open Go
section
variable {P : Program} {L : Env} {hs : List HProp} {dst : Option Tmp} {ty : TypeId} {pos : String} {aft : Array Edge} {g : Option (Nat × Bool)}
/-- the value of a part of a slice -/
def subS (a : Option Addr) (l h m k : Nat) : Value := .slice (if m = l then a else a.map (·.add (l * k))) (h - l) (m - l)
theorem subS_to (a : Option Addr) (h m k : Nat) : subS a 0 h m k = .slice a h m := by
  unfold subS
  have : (a.map fun x => x.add (0 * k)) = a := by cases a <;> simp [Addr.add]
  rw [this]; simp
theorem run_sub {t e k : TypeId} {a : Option Addr} {n cap : Nat} {lo hi : Option Value} {w : World} {l h : Nat} (hu : P.underlying t = some (.slice e)) (hsz : ∀ w, (sizeOf e).run P w = .ok k w)
    (hb : (Instr.sliceBounds true n cap lo hi none).run P w = .ok (l, h, cap) w) : (Instr.sliceAt t (.slice a n cap) lo hi none).run P w = .ok (subS a l h cap k) w := by
  have he : P.underlying t = some (.slice (P.elem t)) := by rw [hu]; simp [Program.elem, hu]
  rw [run_sliceAt_slice w t _ _ _ _ he]
  simp only [Instr.slice, Sem.run_bind, run_underlying hu, Result.andThen_ok, hb, hsz, Sem.run_pure, subS]
theorem Yld.sliceTo {t e k : TypeId} {x y : Operand} {a : Option Addr} {n cap : Nat} {h : Int} (hu : P.underlying t = some (.slice e)) (hsz : ∀ w, (sizeOf e).run P w = .ok k w) (hx : L.ev x = some (.slice a n cap)) (hy : L.ev y = some (vI h)) (h0 : 0 ≤ h) (h1 : h ≤ cap) :
    Yld P ⟨dst, .slice t x none (some y) none, ty, pos, aft, g⟩ L hs (.slice a h.toNat cap) := by
  intro ρ w F hev hh
  have hb : (Instr.sliceBounds true n cap none (some (vI h)) none).run P w = .ok (0, h.toNat, cap) w := by
    simp only [Instr.sliceBounds, Sem.run_bind, Sem.run_pure, Result.andThen_ok, run_sliceBound w .i64 h cap _ h0 h1]
  simp only [execOp, hev x _ hx, hev y _ hy, Option.map_some, Option.map_none, Sem.run_bind, run_sub hu hsz hb, Result.andThen_ok, Sem.run_pure, subS_to]
theorem Yld.sliceFrom {t e k : TypeId} {x y : Operand} {a : Option Addr} {n cap : Nat} {l : Int} (hu : P.underlying t = some (.slice e)) (hsz : ∀ w, (sizeOf e).run P w = .ok k w) (hx : L.ev x = some (.slice a n cap)) (hy : L.ev y = some (vI l)) (h0 : 0 ≤ l) (h1 : l ≤ n) :
    Yld P ⟨dst, .slice t x (some y) none none, ty, pos, aft, g⟩ L hs (subS a l.toNat n cap k) := by
  intro ρ w F hev hh
  have hb : (Instr.sliceBounds true n cap (some (vI l)) none none).run P w = .ok (l.toNat, n, cap) w := by
    simp only [Instr.sliceBounds, Sem.run_bind, Sem.run_pure, Result.andThen_ok, Option.isSome_none, Bool.false_eq_true, if_false, run_sliceBound w .i64 l n _ h0 h1]
  simp only [execOp, hev x _ hx, hev y _ hy, Option.map_some, Option.map_none, Sem.run_bind, run_sub hu hsz hb, Result.andThen_ok, Sem.run_pure]
theorem sl_from {m : Bool} {k n cap l : Nat} {a : Option Addr} {cs : List Value} (hl : l ≤ n) : ∀ r, sl m k (.slice a n cap) n cs r → sl m k (subS a l n cap k) (n - l) (cs.drop (l * k)) r := fun r h => by
  rcases h with ⟨a', hv, hn, hc⟩ | ⟨b, T, off, cap', pre, post, hv, hp, hcs, hpo, hle, hcel⟩
  · subst hn; subst hc
    have hl0 : l = 0 := by omega
    subst hl0
    simp only [Value.slice.injEq] at hv
    obtain ⟨rfl, _, rfl⟩ := hv
    rw [subS_to]
    exact .inl ⟨a, rfl, rfl, by simp⟩
  · simp only [Value.slice.injEq, true_and] at hv
    obtain ⟨rfl, rfl⟩ := hv
    unfold subS
    by_cases hc : cap = l
    · have hn : n = l := by omega
      subst hc; subst hn
      simp only [if_true, Nat.sub_self]
      exact .inl ⟨_, rfl, rfl, by simp [hcs]⟩
    · rw [if_neg hc]
      have hadd : (Option.map (fun x => Addr.add x (l * k)) (some (⟨b, off, none⟩ : Addr))) = some ⟨b, off + l * k, none⟩ := by
        by_cases h0 : l * k = 0 <;> simp [Addr.add, h0]
      rw [hadd]
      have hmul : l * k ≤ n * k := Nat.mul_le_mul_right k hl
      refine .inr ⟨b, T, off + l * k, cap - l, pre ++ cs.take (l * k), post, rfl, by simp [hp, hcs, Nat.min_eq_left hmul], by simp [hcs, Nat.sub_mul], ?_, by omega, ?_⟩
      · exact Nat.le_trans (Nat.mul_le_mul_right _ (by omega)) hpo
      · have : pre ++ cs.take (l * k) ++ cs.drop (l * k) ++ post = pre ++ cs ++ post := by simp [List.append_assoc]
        rw [this]; exact hcel
theorem sl_to {m : Bool} {k n cap h : Nat} {a : Option Addr} {cs : List Value} (hl : h ≤ n) : ∀ r, sl m k (.slice a n cap) n cs r → sl m k (.slice a h cap) h (cs.take (h * k)) r := fun r hh => by
  rcases hh with ⟨a', hv, hn, hc⟩ | ⟨b, T, off, cap', pre, post, hv, hp, hcs, hpo, hle, hcel⟩
  · subst hn; subst hc
    have hl0 : h = 0 := by omega
    subst hl0
    exact .inl ⟨a', hv, rfl, by simp⟩
  · simp only [Value.slice.injEq, true_and] at hv
    obtain ⟨rfl, rfl⟩ := hv
    have hmul : h * k ≤ n * k := Nat.mul_le_mul_right k hl
    refine .inr ⟨b, T, off, cap, pre, cs.drop (h * k) ++ post, rfl, hp, by simp [hcs, Nat.min_eq_left hmul], ?_, by omega, ?_⟩
    · simp only [List.length_append, List.length_drop, hcs]
      have h1 : (cap - h) * k = (n - h) * k + (cap - n) * k := by rw [← Nat.add_mul]; congr 1; omega
      have h2 : (n - h) * k = n * k - h * k := Nat.sub_mul _ _ _
      omega
    · have : pre ++ cs.take (h * k) ++ (cs.drop (h * k) ++ post) = pre ++ cs ++ post := by
        rw [List.append_assoc, ← List.append_assoc (cs.take _), List.take_append_drop, ← List.append_assoc]
      rw [this]; exact hcel
theorem Yld.max_i {x y : Operand} {a b : Int} {ts : Array TypeId} (hx : L.ev x = some (vI a)) (hy : L.ev y = some (vI b)) :
    Yld P ⟨dst, .call ⟨.builtin .max, #[x, y], ts⟩, ty, pos, aft, g⟩ L hs (vI (if b > a then b else a)) := by
  intro ρ w F hev hh
  simp only [execOp, resolve, invoke, builtin, Builtin.max_, Builtin.max2, List.map_toArray, List.map_cons, List.map_nil, hev x _ hx, hev y _ hy, Sem.run_bind, Sem.run_pure, Result.andThen_ok, List.foldlM_cons, List.foldlM_nil]
end
section
variable {w0 : World} {n : Nat} {L : Env} {hs : List HProp} {F : HProp} {k : Act → World → Prop} {A B C D E1 E2 E3 : HProp}
theorem Hs.star7 : ∀ r, Hs (Sl.star A (Sl.star B (Sl.star C (Sl.star D (Sl.star E1 (Sl.star E2 E3))))) :: hs) F r → Hs (A :: B :: C :: D :: E1 :: E2 :: E3 :: hs) F r := fun r h =>
  star_mono (fun _ h => h) (fun _ h => star_mono (fun _ h => h) (fun _ h => star_mono (fun _ h => h) (fun q h => Hs.star4 (hs := hs) q h) h) h) (Hs.star4 (hs := hs) r h)
theorem G.star7 (h : G w0 n L (A :: B :: C :: D :: E1 :: E2 :: E3 :: hs) F k) : G w0 n L (Sl.star A (Sl.star B (Sl.star C (Sl.star D (Sl.star E1 (Sl.star E2 E3))))) :: hs) F k := G.imp (hs' := A :: B :: C :: D :: E1 :: E2 :: E3 :: hs) Hs.star7 h
end
end Go.Sl
