/- FlightTimes: what the contracts ask of the flights that it meets. -/
import Derived.Test.YtogemllbdkbjkaaFlTimesG
import Derived.Test.YtogemllbdkbjkaaSlRem
import Derived.Test.YtogemllbdkbjkaaR1Facts
set_option linter.unusedVariables false
set_option linter.unusedSimpArgs false
namespace Go.Fl
open Go Go.Sl Go.Proofs
variable {k : UInt32} {p : Nat} {o : Int}
theorem ok_of {f : Fm} (h1 : f.ps.length < 1000) (h2 : ∀ q ∈ f.ps, q.body.length = 1 ∧ q.missed = 0) (h3 : f.gone.Nodup) (h4 : (∀ p ∈ f.ps, Rng p.m) ∧ ∀ k ∈ f.gone, Rng k) : f.ok :=
  ⟨by omega, fun q hq => by rw [(h2 q hq).1]; omega, fun q hq => by rw [(h2 q hq).2]; omega, h3, h4⟩
theorem rng7 : Rng 7 := by decide
theorem stA_ok {i : Nat} (hi : i < 50) : (stA k i).ok := ok_of (by simp [stA]; omega) (fun q hq => by
  obtain ⟨j, _, rfl⟩ := List.mem_map.1 hq; exact ⟨rfl, rfl⟩) List.nodup_nil ⟨fun q hq => by
  obtain ⟨j, _, rfl⟩ := List.mem_map.1 hq; exact rng7, fun k hk => by cases hk⟩
theorem stS_ok {r : Nat} (ho : Rng o) (hp : p < 50) : (stS k p o r).ok := ok_of (by simp [stS]; omega) (fun q hq => by
  rcases List.mem_append.1 hq with h | h
  · obtain ⟨j, _, rfl⟩ := List.mem_map.1 h; exact ⟨rfl, rfl⟩
  · simp only [List.mem_singleton] at h; subst h; exact ⟨rfl, rfl⟩) List.nodup_nil ⟨fun q hq => by
  rcases List.mem_append.1 hq with h | h
  · obtain ⟨j, _, rfl⟩ := List.mem_map.1 h; exact rng7
  · simp only [List.mem_singleton] at h; subst h; exact ho, fun k hk => by cases hk⟩
theorem stR_ok {r i : Nat} (ho : Rng o) (hi : i ≤ p) (hp : p < 50) : (stR k p o r i).ok := ok_of (by simp [stR]; omega) (fun q hq => by
  rcases List.mem_append.1 hq with h | h
  · obtain ⟨j, _, rfl⟩ := List.mem_map.1 h; exact ⟨rfl, rfl⟩
  · rcases List.mem_append.1 h with h | h
    · obtain ⟨j, _, rfl⟩ := List.mem_map.1 h; exact ⟨rfl, rfl⟩
    · simp only [List.mem_singleton] at h; subst h; exact ⟨rfl, rfl⟩) List.nodup_nil ⟨fun q hq => by
  rcases List.mem_append.1 hq with h | h
  · obtain ⟨j, _, rfl⟩ := List.mem_map.1 h; exact rng7
  · rcases List.mem_append.1 h with h | h
    · obtain ⟨j, _, rfl⟩ := List.mem_map.1 h; exact rng7
    · simp only [List.mem_singleton] at h; subst h; exact ho, fun k hk => by cases hk⟩
theorem stE_ok {s : UInt64} {a : UInt32} {h : Int} (ho : Rng o) (hp : p < 50) : (stE k p o (otT p o s a h)).ok := ok_of (by simp [stE]; omega) (fun q hq => by
  rcases List.mem_append.1 hq with h | h
  · obtain ⟨j, _, rfl⟩ := List.mem_map.1 h; exact ⟨rfl, rfl⟩
  · simp only [List.mem_singleton] at h; subst h; exact ⟨rfl, rfl⟩) (by simp [stE]) ⟨fun q hq => by
  rcases List.mem_append.1 hq with h | h
  · obtain ⟨j, _, rfl⟩ := List.mem_map.1 h; exact rng7
  · simp only [List.mem_singleton] at h; subst h; exact ho, fun k hk => by simp only [stE, List.mem_singleton] at hk; subst hk; exact rng7⟩
theorem stS_gone {r : Nat} {now : UInt32} : ((stS k p o r).expireG now).gone.length ≤ 1000000000 := by rw [stS_expireG]; simp [stS]
theorem stE_gone {now : UInt32} : ((stE k p o (otT p o (sentR (k.toNat + 1)) 1 0)).expireG now).gone.length ≤ 1000000000 := by
  rw [expire_none fun q hq => by
    rcases List.mem_append.1 hq with h | h
    · obtain ⟨j, _, rfl⟩ := List.mem_map.1 h; simp [pcT]
    · simp only [List.mem_singleton] at h; subst h; simp [otT]]
  simp [stE]
theorem cast32 {i : Nat} (hi : i < 50) : UInt32.ofNat (((i : Nat) : Int) % 4294967296).toNat = UInt32.ofNat i := by congr 1; omega
theorem eq52n (n : Nat) (a b : Skip) (w : World) : (Op.equalIn (n + 1 + 1) 52 (.agg (skv a).toArray) (.agg (skv b).toArray)).run Try.prog w = .ok (decide (a = b)) w := by
  rw [run_equalIn_agg w _ 52 _ _ (by simp [Program.fieldsOf, Try.underlying52]) Try.stoodInHeld52]
  simp [Program.fieldsOf, Try.underlying52, go_sem, Try.underlying30, Try.underlying4, Try.underlying22]
  obtain ⟨a1, a2, a3⟩ := a
  obtain ⟨b1, b2, b3⟩ := b
  have h1 : ((a1.toNat : Int) = b1.toNat) ↔ a1 = b1 := ⟨fun h => UInt16.toNat_inj.1 (by omega), fun h => h ▸ rfl⟩
  have h3 : ((a3.toNat : Int) = b3.toNat) ↔ a3 = b3 := ⟨fun h => UInt32.toNat_inj.1 (by omega), fun h => h ▸ rfl⟩
  by_cases e1 : a1 = b1 <;> by_cases e2 : a2 = b2 <;> by_cases e3 : a3 = b3 <;> simp [e1, e2, e3, h1, h3]
theorem guard52 : Try.prog.eqGuardType Try.prog.depth 52 = false := by kernel_rfl
theorem head_agg {pre cs post : List Value} {off k : Nat} (h : pre.length = off) : ((pre ++ cs ++ post).drop (off + ((0 : Int)).toNat * k)).take cs.length = cs := by
  subst h; simp
theorem head_one {pre cs post : List Value} {v : Value} {off k : Nat} (h : pre.length = off) : (pre ++ (v :: cs) ++ post)[off + ((0 : Int)).toNat * k]? = some v := by
  subst h; simp
end Go.Fl
