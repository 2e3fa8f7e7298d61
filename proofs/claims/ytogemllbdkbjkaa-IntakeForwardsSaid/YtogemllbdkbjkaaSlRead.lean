/- From a contract that reads what came in to what a row asks: what lay before lies as it did. -/
import Derived.Test.YtogemllbdkbjkaaSlExact
import Derived.Test.YtogemllbdkbjkaaSlElem
import Derived.ChangeSlices
import Derived.ChangeArms
import Derived.Below
set_option linter.unusedVariables false
set_option linter.unusedSimpArgs false
namespace Go.Sl
open Go Go.RowKit
/-- the whole old heap, shared -/
def old (w : World) : Res := fun b => (w.heap[b]?).map fun o => (false, o)
theorem old_ok (w : World) : Res.ok (old w) (old w) := fun b x y hx hy => by
  simp only [old, Option.map_eq_some_iff] at hx
  obtain ⟨o, ho, rfl⟩ := hx
  rw [show old w b = some (false, o) by simp [old, ho]] at hy
  exact ⟨rfl, by simpa using hy⟩
theorem old_add (w : World) : Res.add (old w) (old w) = old w := by
  funext b
  cases h : old w b with
  | none => rw [Res.add_none h, h]
  | some x => rw [Res.add_left h]
theorem old_on (w : World) : Res.on (old w) w := fun b m o h => by
  simp only [old, Option.map_eq_some_iff, Prod.mk.injEq] at h
  obtain ⟨o', h1, _, rfl⟩ := h
  exact h1
def exactF (w : World) : HProp := fun r => ∀ b o, w.heap[b]? = some o → r b = some (false, o)
theorem old_Hs {w : World} : ∀ {l : List HProp}, (∀ A ∈ l, A (old w)) → Hs l (exactF w) (old w)
  | [], _ => fun b o h => by simp [old, h]
  | A :: l, h => ⟨old w, old w, old_ok w, (old_add w).symm, h A (by simp), old_Hs fun B hB => h B (by simp [hB])⟩
/-- a contract that reads: what lay before lies as it did -/
theorem Spec.keptR {P : Program} {f : FuncId} {args : Array Value} {Pre : List HProp} {Post : Value → HProp} (h : Spec P f args Pre Post) (w : World) (hp : ∀ A ∈ Pre, A (old w)) :
    Calls P f args w fun e w' => ∃ v, e = .returned v ∧ (∃ r, Post v r) ∧ Below w.heap.size w w' := by
  refine (h w (exactF w) ⟨old w, old_on w, old_Hs hp⟩).mono ?_
  rintro e w' ⟨v, rfl, hs, hh⟩
  obtain ⟨q, hq, q1, q2, hok, rfl, h1, h2⟩ := hh
  refine ⟨v, rfl, ⟨q1, h1⟩, hs.os, hs.tape, hs.output, hs.size, fun k hk => ?_⟩
  have e1 : w.heap[k]? = some w.heap[k] := by simp [hk]
  rw [e1]
  exact hq k false _ (Res.add_right hok (h2 k _ e1))
theorem spot_of {w : World} {a : Addr} {v : Value} (h : w.cell? a = some v) : a.spot = none := World.cell?_spot h
/-- a slice that came in: its cells are read -/
theorem sl_old {w : World} {x : Addr} {k len cap : Nat} {cs : List Value} (hk : 0 < k) (hle : len ≤ cap) (hcs : cs.length = cap * k) (hcell : ∀ i v, cs[i]? = some v → w.cell? (x.add i) = some v) :
    sl false k (.slice (some x) len cap) len (cs.take (len * k)) (old w) := by
  rcases Nat.eq_zero_or_pos cap with h0 | h0
  · subst h0
    have : len = 0 := by omega
    subst this
    exact .inl ⟨_, rfl, rfl, by simp⟩
  · have hpos : 0 < cs.length := by rw [hcs]; exact Nat.mul_pos h0 hk
    obtain ⟨b, off, sp⟩ := x
    have hsp : sp = none := by have := spot_of (hcell 0 cs[0] (by simp)); simpa [Addr.add] using this
    subst hsp
    have h1 := hcell 0 cs[0] (by simp)
    rw [addr_add] at h1
    unfold World.cell? at h1
    simp only [Nat.add_zero] at h1
    split at h1
    · rename_i c T fr hb
      have hall : ∀ i v, cs[i]? = some v → c.toList[off + i]? = some v := fun i v hv => by
        have h2 := hcell i v hv
        rw [addr_add] at h2
        unfold World.cell? at h2
        simp only [hb] at h2
        simpa using h2
      have hm : len * k ≤ cap * k := Nat.mul_le_mul_right _ hle
      have hlast : off + cs.length ≤ c.toList.length := by
        have := hall (cs.length - 1) (cs[cs.length - 1]'(by omega)) (by simp)
        have := (List.getElem?_eq_some_iff.1 this).1
        omega
      have hmid : (c.toList.drop off).take (len * k) = cs.take (len * k) := by
        apply List.ext_getElem?
        intro i
        by_cases hi : i < len * k
        · rw [List.getElem?_take, if_pos hi, List.getElem?_take, if_pos hi, List.getElem?_drop]
          have : i < cs.length := by omega
          rw [hall i cs[i] (by simp), List.getElem?_eq_getElem this]
        · rw [List.getElem?_take, if_neg hi, List.getElem?_take, if_neg hi]
      refine .inr ⟨b, T, off, cap, c.toList.take off, (c.toList.drop off).drop (len * k), rfl, ?_, ?_, ?_, hle, fr, fun h => by simp at h, ?_⟩
      · rw [List.length_take]; omega
      · rw [List.length_take]; omega
      · rw [List.length_drop, List.length_drop, Nat.sub_mul]; omega
      · have e : c.toList.take off ++ cs.take (len * k) ++ (c.toList.drop off).drop (len * k) = c.toList := by
          rw [← hmid, List.append_assoc, List.take_append_drop, List.take_append_drop]
        rw [e]
        simp only [old, hb, Option.map_some]
    · cases h1
/-- a slice of numbers that came in -/
theorem ints_old {w : World} {k : IntKind} {x : Addr} {len cap : Nat} {zs : List Int} (hle : len ≤ cap) (hz : zs.length = cap) (hcell : ∀ i, i < zs.length → w.cell? (x.add i) = some (.int k (zs.getD i 0))) :
    sl false 1 (.slice (some x) len cap) len ((zs.take len).map (.int k)) (old w) := by
  have h := sl_old (w := w) (x := x) (k := 1) (len := len) (cap := cap) (cs := zs.map (.int k)) (by decide) hle (by simp [hz]) (fun i v hv => by
    simp only [List.getElem?_map, Option.map_eq_some_iff] at hv
    obtain ⟨z, hz2, rfl⟩ := hv
    have hi : i < zs.length := (List.getElem?_eq_some_iff.1 hz2).1
    rw [hcell i hi, List.getD_eq_getElem?_getD, hz2]; rfl)
  rw [Nat.mul_one, ← List.map_take] at h
  exact h
theorem u8s_of (zs : List Int) (h : ∀ n ∈ zs, (Lit.int .u8 n).wf = true) : zs.map (.int .u8) = (zs.map fun n => UInt8.ofNat n.toNat).map vU8 := by
  rw [List.map_map]
  apply List.map_congr_left
  intro n hn
  have := h n hn
  simp only [Lit.wf, Bool.and_eq_true, decide_eq_true_eq] at this
  have h1 : (0 : Int) ≤ n := this.1
  have h2 : n ≤ 255 := this.2
  simp only [Function.comp, vU8]
  rw [UInt8.toNat_ofNat_of_lt' (by show n.toNat < 256; omega)]
  congr 1; omega
theorem u16s_of (zs : List Int) (h : ∀ n ∈ zs, (Lit.int .u16 n).wf = true) : zs.map (.int .u16) = (zs.map fun n => UInt16.ofNat n.toNat).map vU16 := by
  rw [List.map_map]
  apply List.map_congr_left
  intro n hn
  have := h n hn
  simp only [Lit.wf, Bool.and_eq_true, decide_eq_true_eq] at this
  have h1 : (0 : Int) ≤ n := this.1
  have h2 : n ≤ 65535 := this.2
  simp only [Function.comp, vU16]
  rw [UInt16.toNat_ofNat_of_lt' (by show n.toNat < 65536; omega)]
  congr 1; omega
end Go.Sl
