/- FlightTimes, as data. -/
import Derived.Test.YtogemllbdkbjkaaFlAckF
import Derived.Test.YtogemllbdkbjkaaFlPointF
set_option linter.unusedVariables false
set_option linter.unusedSimpArgs false
namespace Go.Fl
open Go Go.Sl
section
variable (k : UInt32) (p : Nat) (o : Int)
/-- piece i, sent so often, at, how it stands -/
def pcT (sent : UInt64) (at_ : UInt32) (how : Int) (i : Nat) : Piece := ⟨{ kind := 64, stream := 4, mid := 9, frag := UInt32.ofNat i, tsn := 100 + UInt32.ofNat i }, [120], 7, 1, k, sent, at_, 0, how⟩
def otT (sent : UInt64) (at_ : UInt32) (how : Int) : Piece := ⟨{ kind := 64, stream := 1, tsn := 100 + UInt32.ofNat p }, [121], o, 0, 0, sent, at_, 0, how⟩
def sentR (r : Nat) : UInt64 := UInt64.ofNat (r + 1)
def atR (r : Nat) : UInt32 := if r = 0 then 0 else 1
/-- the first i are sent -/
def stA (i : Nat) : Fm := ⟨99, (List.range i).map (pcT k 1 0 0), []⟩
/-- ahead of round r -/
def stS (r : Nat) : Fm := ⟨99, (List.range p).map (pcT k (sentR r) (atR r) 0) ++ [otT p o (sentR r) (atR r) 0], []⟩
/-- in round r: all lost, the first i sent again -/
def stR (r i : Nat) : Fm := ⟨99, (List.range i).map (pcT k (sentR (r + 1)) 1 0) ++ ((List.range' i (p - i)).map (pcT k (sentR r) (atR r) 1) ++ [otT p o (sentR r) (atR r) 1]), []⟩
end
variable {k : UInt32} {p : Nat} {o : Int}
theorem next_of {f : Fm} {j : Nat} (h1 : f.mark = 99) (h2 : f.ps.length = j) (hj : j < 100) : f.next = 100 + UInt32.ofNat j := by
  have e : UInt32.ofNat ((f.ps.length : Int) % 4294967296).toNat = UInt32.ofNat j := by
    congr 1; omega
  show f.mark + UInt32.ofNat ((f.ps.length : Int) % 4294967296).toNat + 1 = _
  rw [e, h1, UInt32.add_assoc, UInt32.add_comm (UInt32.ofNat j) 1, ← UInt32.add_assoc]; rfl
theorem stA_send {i : Nat} (hi : i < 50) : (stA k i).send 7 1 k { kind := 64, stream := 4, mid := 9, frag := UInt32.ofNat i } [120] 0 = stA k (i + 1) := by
  have hn : (stA k i).next = 100 + UInt32.ofNat i := next_of rfl (by simp [stA]) (by omega)
  simp only [Fm.send, Fm.newP, Ck.tsnAt, hn]
  simp [stA, List.range_succ, pcT]
theorem stS_send (hp : p < 50) : (stA k p).send o 0 0 { kind := 64, stream := 1 } [121] 0 = stS k p o 0 := by
  have hn : (stA k p).next = 100 + UInt32.ofNat p := next_of rfl (by simp [stA]) (by omega)
  simp only [Fm.send, Fm.newP, Ck.tsnAt, hn]
  simp [stA, stS, otT, sentR, atR]
theorem stS_late (r : Nat) : (stS k p o r).late = stR k p o r 0 := by
  simp [Fm.late, stS, stR, lateP, pcT, otT, List.range_eq_range', Function.comp_def]
/-- those ahead aren't lost, this one is, and may be tried -/
theorem again_hit {f : Fm} {now : UInt32} {A B : List Piece} {q : Piece} (hf : f.ps = A ++ q :: B) (hA : ∀ a ∈ A, a.how ≠ 1) (hq : q.how = 1) (hs : ¬ q.spent) : f.again now = (some (q.anew now), { f with ps := A ++ q.anew now :: B }) := by
  have hskip : ∀ j, j ≤ A.length → f.again now = Fm.againK now (f.ps.length - j) j f := fun j => by
    induction j with
    | zero => intro _; rfl
    | succ j ih =>
      intro hj
      rw [ih (by omega)]
      have hg : f.ps[j]? = some A[j] := by rw [hf, List.getElem?_append_left (by omega)]; simp
      exact againK_skip (by rw [hf]; simp; omega) hg (hA _ (List.getElem_mem _))
  rw [hskip A.length (Nat.le_refl _)]
  have hg : f.ps[A.length]? = some q := by rw [hf]; simp
  rw [againK_hit (by rw [hf]; simp) hg hq hs]
  simp [hf]
theorem stR_again {r i : Nat} (hi : i < p) (hr : r < k.toNat) (hk : k.toNat < 20) : (stR k p o r i).again 1 = (some (pcT k (sentR (r + 1)) 1 0 i), stR k p o r (i + 1)) := by
  have hr' : List.range' i (p - i) = i :: List.range' (i + 1) (p - (i + 1)) := by
    rw [show p - i = (p - (i + 1)) + 1 by omega, List.range'_succ]
  have hsent : (pcT k (sentR r) (atR r) 1 i).anew 1 = pcT k (sentR (r + 1)) 1 0 i := by
    simp only [Piece.anew, pcT, sentR]
    congr 1
    simp
  rw [again_hit (A := (List.range i).map (pcT k (sentR (r + 1)) 1 0)) (B := (List.range' (i + 1) (p - (i + 1))).map (pcT k (sentR r) (atR r) 1) ++ [otT p o (sentR r) (atR r) 1]) (q := pcT k (sentR r) (atR r) 1 i)]
  · rw [hsent]; simp [stR, List.range_succ]
  · simp [stR, hr']
  · intro a ha
    obtain ⟨j, _, rfl⟩ := List.mem_map.1 ha
    simp [pcT]
  · rfl
  · rintro ⟨_, h⟩
    simp only [pcT, sentR, UInt64.lt_iff_toNat_lt, UInt32.toNat_toUInt64] at h
    rw [UInt64.toNat_ofNat_of_lt' (by show r + 1 < 18446744073709551616; omega)] at h
    omega
theorem stR_other {r : Nat} : (stR k p o r p).again 1 = (some (otT p o (sentR (r + 1)) 1 0), stS k p o (r + 1)) := by
  have hsent : (otT p o (sentR r) (atR r) 1).anew 1 = otT p o (sentR (r + 1)) 1 0 := by
    simp only [Piece.anew, otT, sentR]
    congr 1
    simp
  rw [again_hit (A := (List.range p).map (pcT k (sentR (r + 1)) 1 0)) (B := []) (q := otT p o (sentR r) (atR r) 1)]
  · rw [hsent]; simp [stS, stR, atR]
  · simp [stR]
  · intro a ha
    obtain ⟨j, _, rfl⟩ := List.mem_map.1 ha
    simp [pcT]
  · rfl
  · rintro ⟨h, _⟩
    simp [otT] at h
end Go.Fl
