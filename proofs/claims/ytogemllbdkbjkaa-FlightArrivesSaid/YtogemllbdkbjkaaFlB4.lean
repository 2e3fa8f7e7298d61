/- Contracts, printed by a program of mine and proved by Lean. -/
import Derived.Test.YtogemllbdkbjkaaFlB1
import Derived.Test.YtogemllbdkbjkaaFlArrF
import Derived.Test.YtogemllbdkbjkaaFlA8
import Derived.Test.YtogemllbdkbjkaaSlElem
set_option linter.unusedVariables false
set_option linter.unusedSimpArgs false
namespace Go.Fl
open Go Go.Sl Go.Proofs
set_option maxRecDepth 10000
set_option linter.unusedVariables false
theorem arrives_spec (hsk : SortedKeys) (hss : SortSkips) (st : UInt32) (a1 : Option Addr) (c1 : Nat) (zs : List UInt8) (a2 : Option Addr) (c2 : Nat) (ar : List UInt16) : Sl.Spec Try.prog 5 [vU32 st, .slice a1 zs.length c1, .slice a2 ar.length c2].toArray [sl false 1 (.slice a1 zs.length c1) zs.length (zs.map vU8), sl false 1 (.slice a2 ar.length c2) ar.length (ar.map vU16)] (fun v => lift (v = .bool true)) := by
  refine Sl.Spec.of_body (vs := [vU32 st, .slice a1 zs.length c1, .slice a2 ar.length c2]) Try.func5 Try.ntmps5 (Nat.le_of_ble_eq_true rfl) rfl fun w0 F => ?_
  refine G.seq ?_
  refine G.region ?_
  refine G.yld (by decide) (Yld.assign rfl) ?_
  refine G.done ?_
  refine G.seq ?_
  refine G.seq ?_
  refine G.region ?_
  refine G.opc (by decide) (OpC.call Try.call12 rfl first_spec .nil) fun _ => ?_
  refine G.lift ?_
  rintro rfl
  refine G.yld (by decide) (Yld.not rfl) ?_
  refine G.done ?_
  refine G.condF rfl ?_
  refine G.skip ?_
  refine G.seq ?_
  refine G.region ?_
  refine G.yld (by decide) (Yld.move rfl) ?_
  refine G.opc (by decide) (OpC.call Try.call13 rfl (flNew_spec st) .nil) fun _ => ?_
  refine G.ex fun b => ?_
  refine G.star ?_
  refine G.lift ?_
  rintro rfl
  refine G.yld (by decide) (Yld.assign rfl) ?_
  refine G.done ?_
  refine G.seq ?_
  refine G.region ?_
  refine G.yld (by decide) (Yld.move rfl) ?_
  refine G.yld (by decide) (Yld.len_slice Try.runUnderlying23 rfl) ?_
  refine G.yld (by decide) (Yld.min_i (b := (30 : Int)) rfl rfl) ?_
  obtain ⟨n, hn⟩ : ∃ n : Nat, (if (30 : Int) < (zs.length : Int) then (30 : Int) else (zs.length : Int)) = (n : Int) := ⟨min zs.length 30, by split <;> omega⟩
  have hn1 : n ≤ 30 ∧ n ≤ zs.length := by split at hn <;> omega
  rw [hn]
  refine G.yld (by decide) (Yld.assign rfl) ?_
  refine G.done ?_
  refine G.seq ?_
  refine G.seq ?_
  refine G.region ?_
  refine G.yld (by decide) (Yld.move rfl) ?_
  refine G.yld (by decide) (Yld.move rfl) ?_
  refine G.done ?_
  refine G.block ?_
  refine G.loopE (X := Nat × Fm) (fun x => [(0, vU32 st), (1, .slice a1 zs.length c1), (2, .slice a2 ar.length c2), (7, ptr b), (8, vI n), (31, vI n), (32, vI x.1)]) (fun x => [lift (x.1 ≤ n ∧ Ar st zs x.1 0 (Q0 fun _ => false) x.2), isF b x.2, sl false 1 (.slice a1 zs.length c1) zs.length (zs.map vU8), sl false 1 (.slice a2 ar.length c2) ar.length (ar.map vU16)]) (fun x => n - x.1) (0, ⟨st - 1, [], []⟩) (.cons (t := 0) rfl (.cons (t := 1) rfl (.cons (t := 2) rfl (.cons (t := 7) rfl (.cons (t := 8) rfl (.cons (t := 31) rfl (.cons (t := 32) rfl .nil))))))) (.cons (.lift ⟨Nat.zero_le _, Ar.start rfl⟩) (.cons (.pick (A := isF b _) (by repeat (first | with_reducible exact Pick.here | with_reducible apply Pick.there))) (.cons (.pick (A := sl false 1 (.slice a1 _ _) _ _) (by repeat (first | with_reducible exact Pick.here | with_reducible apply Pick.there))) (.cons (.pick (A := sl false 1 (.slice a2 _ _) _ _) (by repeat (first | with_reducible exact Pick.here | with_reducible apply Pick.there))) .nil)))) fun ⟨i, f⟩ => ?_
  refine G.lift fun hi => ?_
  obtain ⟨hi, hA⟩ := hi
  simp only at hi hA
  refine G.seq ?_
  refine G.region ?_
  refine G.yld (by decide) (Yld.lss_i rfl rfl) ?_
  refine G.done ?_
  refine G.seq ?_
  refine G.condP rfl (fun hlt => ?_) (fun hlt => ?_)
  · have hi2 : i < n := by omega
    have hz := (kAt zs i).toNat_lt
    obtain ⟨bd, hbd, hbc⟩ : ∃ bd : List UInt8, bd.length = 1 + (kAt zs i).toNat ∧ byc bd = (List.replicate bd.length [(.int .u8 0 : Value)]).flatten := ⟨List.replicate (1 + (kAt zs i).toNat) 0, by simp, by simp [byc]⟩
    refine G.skip ?_
    refine G.seq ?_
    refine G.block ?_
    refine G.seq ?_
    refine G.region ?_
    refine G.yld (by decide) (Yld.move rfl) ?_
    refine G.yld (by decide) (Yld.assign rfl) ?_
    refine G.done ?_
    refine G.region ?_
    refine G.yld (by decide) (Yld.move rfl) ?_
    refine G.yld (by decide) (Yld.move rfl) ?_
    refine G.yld (by decide) (Yld.buildS (cs := [_, _]) Try_z46 Try_pl46 rfl rfl .nil rfl) ?_
    refine G.yld (by decide) (Yld.move rfl) ?_
    refine G.yld (by decide) (Yld.move rfl) ?_
    refine G.yld (by decide) (Yld.indexE Try.runUnderlying23 Try.sizeOf5 rfl rfl (show Pick _ (sl false 1 (.slice a1 _ _) _ _) _ from by repeat (first | with_reducible exact Pick.here | with_reducible apply Pick.there)) (by decide) (by omega) (by omega)) ?_
    refine G.yld (by decide) (Yld.loadE (v := vU8 (kAt zs i)) Try.isAgg5 rfl (show Pick _ (sl false 1 (.slice a1 _ _) _ _) _ from by repeat (first | with_reducible exact Pick.here | with_reducible apply Pick.there)) (by rw [List.getElem?_map]; simp [kAt, List.getD_eq_getElem?_getD, List.getElem?_eq_getElem (show i < zs.length by omega)])) ?_
    refine G.yld (by decide) (Yld.conv_u8_i Try.runUnderlying5 Try.runUnderlying3 rfl) ?_
    refine G.yld (by decide) (Yld.add_i (a := (1 : Int)) rfl rfl (by omega)) ?_
    rw [show (1 : Int) + ((kAt zs i).toNat : Int) = (bd.length : Int) by omega]
    refine G.opc (by decide) (OpC.makeSlice (zc := [.int .u8 0]) Try.underlying23 Try.type5 rfl rfl rfl rfl rfl (room_of _ _ (by decide) (by omega)) (by omega)) fun bm => ?_
    refine G.fold (A := sl true 1 (.slice (some ⟨bm, 0, none⟩) bd.length bd.length) bd.length (byc bd)) (.imp (.pick (A := cel _ bm _ _) (by repeat (first | with_reducible exact Pick.here | with_reducible apply Pick.there))) (fun r h => sl_row (k := 1) (n := bd.length) (by rw [byc_length]; omega) r (by rw [hbc]; exact h))) ?_
    refine G.share .here ?_
    refine G.yld (by decide) (Yld.move rfl) ?_
    refine G.yld (by decide) (Yld.conv_i_u32 Try.runUnderlying3 Try.runUnderlying22 rfl) ?_
    rw [cast32 (by omega)]
    refine G.yld (by decide) (Yld.buildS (cs := [_, _, _, _, _, _, _, _, _, _, _, _, _, _, _, _, _, _, _]) Try_z36 Try_pl36 rfl rfl (.cons rfl rfl (Nat.le_of_ble_eq_true rfl) (.cons rfl rfl (Nat.le_of_ble_eq_true rfl) (.cons rfl rfl (Nat.le_of_ble_eq_true rfl) .nil))) rfl) ?_
    refine G.opc (by decide) (OpC.call Try.call14 rfl (send_spec b f i 0 0 { kind := 64, mid := UInt32.ofNat i } (.slice (some ⟨bm, 0, none⟩) bd.length bd.length) bd 0 hA.ok (by omega)) (.cons (by repeat (first | with_reducible exact Pick.here | with_reducible apply Pick.there)) (.cons (by repeat (first | with_reducible exact Pick.here | with_reducible apply Pick.there)) .nil))) fun _ => ?_
    refine G.ex fun bvx => ?_
    refine G.star ?_
    refine G.lift ?_
    rintro rfl
    refine G.star ?_
    refine G.done ?_
    refine G.nil ?_
    refine G.x_block (G.x_then ?_)
    refine G.region ?_
    refine G.yld (by decide) (Yld.add_i (b := (1 : Int)) rfl rfl (by omega)) ?_
    refine G.yld (by decide) (Yld.move rfl) ?_
    refine G.done ?_
    refine G.nil ?_
    refine G.x_then ?_
    exact G.againE (i + 1, f.send i 0 0 { kind := 64, mid := UInt32.ofNat i } bd 0) (by simp only; omega) (.cons (t := 0) rfl (.cons (t := 1) rfl (.cons (t := 2) rfl (.cons (t := 7) rfl (.cons (t := 8) rfl (.cons (t := 31) rfl (.cons (t := 32) rfl .nil))))))) (.cons (.lift ⟨by simp only; omega, hA.send (by omega) rfl hbd⟩) (.cons (.pick (A := isF b _) (by repeat (first | with_reducible exact Pick.here | with_reducible apply Pick.there))) (.cons (.pick (A := sl false 1 (.slice a1 _ _) _ _) (by repeat (first | with_reducible exact Pick.here | with_reducible apply Pick.there))) (.cons (.pick (A := sl false 1 (.slice a2 _ _) _ _) (by repeat (first | with_reducible exact Pick.here | with_reducible apply Pick.there))) .nil))))
  · have hi2 : n = i := by omega
    subst hi2
    refine G.exit ?_
    refine G.x_exit_then (G.x_exit_then ?_)
    refine G.x_exit_block (G.x_then ?_)
    refine G.unframe (by repeat (first | exact App.nil | apply App.cons)) ?_
    refine G.seq ?_
    refine G.region ?_
    refine G.opc (by decide) (OpC.alloc (cs := [.bool false, .bool false, .bool false, .bool false, .bool false, .bool false, .bool false, .bool false, .bool false, .bool false, .bool false, .bool false, .bool false, .bool false, .bool false, .bool false, .bool false, .bool false, .bool false, .bool false, .bool false, .bool false, .bool false, .bool false, .bool false, .bool false, .bool false, .bool false, .bool false, .bool false, .bool false]) Try.zeroValue55 rfl) fun b10 => ?_
    refine G.done ?_
    refine G.seq ?_
    refine G.seq ?_
    refine G.region ?_
    refine G.yld (by decide) (Yld.move rfl) ?_
    refine G.yld (by decide) (Yld.len_slice Try.runUnderlying54 rfl) ?_
    refine G.yld (by decide) (Yld.min_i (b := (40 : Int)) rfl rfl) ?_
    obtain ⟨m, hm⟩ : ∃ m : Nat, (if (40 : Int) < (ar.length : Int) then (40 : Int) else (ar.length : Int)) = (m : Int) := ⟨min ar.length 40, by split <;> omega⟩
    have hm1 : m ≤ 40 ∧ m ≤ ar.length := by split at hm <;> omega
    rw [hm]
    refine G.yld (by decide) (Yld.move rfl) ?_
    refine G.done ?_
    refine G.block ?_
    refine G.loopE (X := Nat × (Nat → Bool) × Nat × Fm) (fun x => [(0, vU32 st), (1, .slice a1 zs.length c1), (2, .slice a2 ar.length c2), (7, ptr b), (8, vI n), (10, ptr b10), (52, vI m), (53, vI x.1)]) (fun x => [lift (x.1 ≤ m ∧ Ar st zs n x.2.2.1 (Q0 x.2.1) x.2.2.2 ∧ ∀ i, i < x.2.2.1 → x.2.1 i = true), isF b x.2.2.2, cel true b10 55 (hasC x.2.1), sl false 1 (.slice a1 zs.length c1) zs.length (zs.map vU8), sl false 1 (.slice a2 ar.length c2) ar.length (ar.map vU16)]) (fun x => m - x.1) (0, fun _ => false, 0, f) (.cons (t := 0) rfl (.cons (t := 1) rfl (.cons (t := 2) rfl (.cons (t := 7) rfl (.cons (t := 8) rfl (.cons (t := 10) rfl (.cons (t := 52) rfl (.cons (t := 53) rfl .nil)))))))) (.cons (.lift ⟨Nat.zero_le _, hA, fun i hi => by simp at hi⟩) (.cons (.pick (A := isF b _) (by repeat (first | with_reducible exact Pick.here | with_reducible apply Pick.there))) (.cons (.imp (.pick (A := cel true b10 _ _) (by repeat (first | with_reducible exact Pick.here | with_reducible apply Pick.there))) (fun r h => by exact h)) (.cons (.pick (A := sl false 1 (.slice a1 _ _) _ _) (by repeat (first | with_reducible exact Pick.here | with_reducible apply Pick.there))) (.cons (.pick (A := sl false 1 (.slice a2 _ _) _ _) (by repeat (first | with_reducible exact Pick.here | with_reducible apply Pick.there))) .nil))))) fun ⟨r, h, up, f⟩ => ?_
    refine G.lift fun hr => ?_
    obtain ⟨hr, hF, hup⟩ := hr
    simp only at hr hF hup
    refine G.seq ?_
    refine G.region ?_
    refine G.yld (by decide) (Yld.lss_i rfl rfl) ?_
    refine G.done ?_
    refine G.seq ?_
    refine G.condP rfl (fun hlt => ?_) (fun hlt => ?_)
    · have hr2 : r < m := by omega
      obtain ⟨av, hav⟩ : ∃ av, ar[r]? = some av := ⟨_, List.getElem?_eq_getElem (by omega)⟩
      refine G.skip ?_
      refine G.seq ?_
      refine G.block ?_
      refine G.seq ?_
      refine G.region ?_
      refine G.yld (by decide) (Yld.move rfl) ?_
      refine G.yld (by decide) (Yld.assign rfl) ?_
      refine G.done ?_
      refine G.seq ?_
      refine G.region ?_
      refine G.yld (by decide) (Yld.move rfl) ?_
      refine G.yld (by decide) (Yld.move rfl) ?_
      refine G.yld (by decide) (Yld.indexE Try.runUnderlying54 Try.sizeOf30 rfl rfl (show Pick _ (sl false 1 (.slice a2 _ _) _ _) _ from by repeat (first | with_reducible exact Pick.here | with_reducible apply Pick.there)) (by decide) (by omega) (by omega)) ?_
      refine G.yld (by decide) (Yld.loadE (v := vU16 av) Try.isAgg30 rfl (show Pick _ (sl false 1 (.slice a2 _ _) _ _) _ from by repeat (first | with_reducible exact Pick.here | with_reducible apply Pick.there)) (by rw [List.getElem?_map]; simp [hav])) ?_
      refine G.yld (by decide) (Yld.conv_u16_i Try.runUnderlying30 Try.runUnderlying3 rfl) ?_
      refine G.yld (by decide) (Yld.rem_i (b := 31) rfl rfl (by decide)) ?_
      obtain ⟨q, hq⟩ : ∃ q, av.toNat % 31 = q := ⟨_, rfl⟩
      have hq31 : q < 31 := by rw [← hq]; exact Nat.mod_lt _ (by decide)
      rw [hq]
      refine G.yld (by decide) (Yld.indexAddrA Try.runUnderlying55 Try.sizeOf4 rfl rfl (by omega) (by omega)) ?_
      refine G.op0  (OpC.store Try.sizeOf4 rfl rfl rfl (by repeat (first | with_reducible exact Pick.here | with_reducible apply Pick.there)) rfl (by simp; omega)) fun _ => ?_
      refine G.conv (A := cel true b10 55 _) (by repeat (first | with_reducible exact Pick.here | with_reducible apply Pick.there)) (A' := cel true b10 55 (hasC (hasSet h q))) (fun r hr => by simp only [Int.toNat_natCast, Nat.zero_add, Nat.mul_one] at hr; rw [hasC_set] at hr; exact hr) ?_
      have hsub : ∀ i, h i = true → hasSet h q i = true := fun i hi => hasSet_of hi
      obtain ⟨h', hh'⟩ : ∃ h', hasSet h q = h' := ⟨_, rfl⟩
      rw [hh'] at hsub ⊢
      refine G.done ?_
      refine G.seq ?_
      refine G.region ?_
      refine G.yld (by decide) (Yld.assign rfl) ?_
      refine G.done ?_
      refine G.seq ?_
      refine G.block ?_
      refine G.loopE (X := Nat) (fun x => [(0, vU32 st), (1, .slice a1 zs.length c1), (2, .slice a2 ar.length c2), (7, ptr b), (8, vI n), (10, ptr b10), (11, vI r), (52, vI m), (53, vI r), (12, vI x)]) (fun x => [lift (x ≤ n ∧ ∀ i, i < x → h' i = true), isF b f, cel true b10 55 (hasC h'), sl false 1 (.slice a1 zs.length c1) zs.length (zs.map vU8), sl false 1 (.slice a2 ar.length c2) ar.length (ar.map vU16)]) (fun x => n - x) 0 (.cons (t := 0) rfl (.cons (t := 1) rfl (.cons (t := 2) rfl (.cons (t := 7) rfl (.cons (t := 8) rfl (.cons (t := 10) rfl (.cons (t := 11) rfl (.cons (t := 52) rfl (.cons (t := 53) rfl (.cons (t := 12) rfl .nil)))))))))) (.cons (.lift ⟨Nat.zero_le _, fun i hi => by simp at hi⟩) (.cons (.pick (A := isF b _) (by repeat (first | with_reducible exact Pick.here | with_reducible apply Pick.there))) (.cons (.pick (A := cel true b10 _ _) (by repeat (first | with_reducible exact Pick.here | with_reducible apply Pick.there))) (.cons (.pick (A := sl false 1 (.slice a1 _ _) _ _) (by repeat (first | with_reducible exact Pick.here | with_reducible apply Pick.there))) (.cons (.pick (A := sl false 1 (.slice a2 _ _) _ _) (by repeat (first | with_reducible exact Pick.here | with_reducible apply Pick.there))) .nil))))) fun u => ?_
      refine G.lift fun hu => ?_
      obtain ⟨hun, hall⟩ := hu
      refine G.seq ?_
      refine G.seq ?_
      refine G.cutB (t := 70) (v := .bool (decide (u < n ∧ h' u = true))) (.cons (t := 0) rfl (.cons (t := 1) rfl (.cons (t := 2) rfl (.cons (t := 7) rfl (.cons (t := 8) rfl (.cons (t := 10) rfl (.cons (t := 11) rfl (.cons (t := 12) rfl (.cons (t := 52) rfl (.cons (t := 53) rfl .nil)))))))))) ?_ ?_
      · refine G.region ?_
        refine G.yld (by decide) (Yld.move rfl) ?_
        refine G.yld (by decide) (Yld.move rfl) ?_
        refine G.yld (by decide) (Yld.lss_i rfl rfl) ?_
        refine G.yld (by decide) (Yld.move rfl) ?_
        refine G.splitB (t := 66) rfl (fun h3 => ?_) (fun h3 => ?_)
        · refine G.yldG (by decide) rfl rfl (Yld.move rfl) ?_
          refine G.yldG (by decide) rfl rfl (Yld.indexAddrA Try.runUnderlying55 Try.sizeOf4 rfl rfl (by omega) (by show (u : Int) < 31; omega)) ?_
          refine G.yldG (by decide) rfl rfl (Yld.load rfl Try.isAgg4 (by repeat (first | with_reducible exact Pick.here | with_reducible apply Pick.there)) (by simp only [Int.toNat_natCast, Nat.zero_add, Nat.mul_one]; exact hasC_get (by omega))) ?_
          refine G.yld (by decide) (Yld.pickT rfl rfl) ?_
          refine G.done ?_
          refine G.nil ?_
          exact G.cutEnd (.as (t := 70) rfl (congrArg Value.bool (by rw [eq_comm]; cases hb : h' u <;> simp <;> omega)) (.cons (t := 0) rfl (.cons (t := 1) rfl (.cons (t := 2) rfl (.cons (t := 7) rfl (.cons (t := 8) rfl (.cons (t := 10) rfl (.cons (t := 11) rfl (.cons (t := 12) rfl (.cons (t := 52) rfl (.cons (t := 53) rfl .nil))))))))))) (Picks.refl _)
        · refine G.skipG (by decide) rfl rfl rfl ?_
          refine G.skipG (by decide) rfl rfl rfl ?_
          refine G.skipG (by decide) rfl rfl rfl ?_
          refine G.yld (by decide) (Yld.pickF rfl rfl) ?_
          refine G.done ?_
          refine G.nil ?_
          exact G.cutEnd (.as (t := 70) rfl (congrArg Value.bool (by rw [eq_comm]; cases hb : h' u <;> simp <;> omega)) (.cons (t := 0) rfl (.cons (t := 1) rfl (.cons (t := 2) rfl (.cons (t := 7) rfl (.cons (t := 8) rfl (.cons (t := 10) rfl (.cons (t := 11) rfl (.cons (t := 12) rfl (.cons (t := 52) rfl (.cons (t := 53) rfl .nil))))))))))) (Picks.refl _)
      refine G.condP rfl (fun hm2 => ?_) (fun hm2 => ?_)
      · have hall2 : ∀ i, i < u + 1 → h' i = true := fun i hi => (Nat.lt_or_ge i u).elim (hall i) fun h1 => by rw [show i = u by omega]; exact hm2.2
        refine G.skip ?_
        refine G.block ?_
        refine G.region ?_
        refine G.yld (by decide) (Yld.move rfl) ?_
        refine G.yld (by decide) (Yld.add_i (b := (1 : Int)) rfl rfl (by omega)) ?_
        refine G.yld (by decide) (Yld.assign rfl) ?_
        refine G.done ?_
        refine G.nil ?_
        refine G.x_block (G.x_then ?_)
        refine G.nil ?_
        refine G.x_then ?_
        exact G.againE (u + 1) (by omega) (.cons (t := 0) rfl (.cons (t := 1) rfl (.cons (t := 2) rfl (.cons (t := 7) rfl (.cons (t := 8) rfl (.cons (t := 10) rfl (.cons (t := 11) rfl (.cons (t := 52) rfl (.cons (t := 53) rfl (.cons (t := 12) rfl .nil)))))))))) (.cons (.lift ⟨by omega, hall2⟩) (.cons (.pick (A := isF b _) (by repeat (first | with_reducible exact Pick.here | with_reducible apply Pick.there))) (.cons (.pick (A := cel true b10 _ _) (by repeat (first | with_reducible exact Pick.here | with_reducible apply Pick.there))) (.cons (.pick (A := sl false 1 (.slice a1 _ _) _ _) (by repeat (first | with_reducible exact Pick.here | with_reducible apply Pick.there))) (.cons (.pick (A := sl false 1 (.slice a2 _ _) _ _) (by repeat (first | with_reducible exact Pick.here | with_reducible apply Pick.there))) .nil)))))
      · have hnu : u < n → h' u = false := fun h1 => by simpa using fun hb => hm2 ⟨h1, hb⟩
        have hupu : up ≤ u := Nat.le_of_not_lt fun h1 => by have h2 := hsub u (hup u h1); have h3 := hF.len; rw [hnu (by omega)] at h2; cases h2
        refine G.exit ?_
        refine G.x_exit_then (G.x_exit_then ?_)
        refine G.x_exit_block (G.x_then ?_)
        refine G.unframe (by repeat (first | exact App.nil | apply App.cons)) ?_
        refine G.seq ?_
        refine G.region ?_
        refine G.yld (by decide) (Yld.move rfl) ?_
        refine G.yld (by decide) (Yld.move rfl) ?_
        refine G.yld (by decide) (Yld.conv_i_u32 Try.runUnderlying3 Try.runUnderlying22 rfl) ?_
        rw [cast32 (by have := hF.small; omega)]
        refine G.yld (by decide) (Yld.add_u32 rfl rfl) ?_
        refine G.yld (by decide) (Yld.sub_u32 (b := (1 : UInt32)) rfl rfl) ?_
        refine G.yld (by decide) (Yld.buildS (cs := [_, _, _, _, _, _, _, _, _, _, _, _, _, _, _, _, _, _, _]) Try_z36 Try_pl36 rfl rfl (.cons rfl rfl (Nat.le_of_ble_eq_true rfl) (.cons rfl rfl (Nat.le_of_ble_eq_true rfl) .nil)) rfl) ?_
        refine G.opc (by decide) (OpC.alloc (cs := [.int .u8 0, .bool false, .bool false, .bool false, .bool false, .int .u32 0, .int .u16 0, .int .u32 0, .int .u32 0, .int .u32 0, .int .u32 0, .int .u32 0, .int .u16 0, .int .u16 0, .slice none 0 0, .slice none 0 0, .slice none 0 0, .slice none 0 0, .slice none 0 0]) Try.zeroValue36 rfl) fun b13 => ?_
        refine G.op0  (OpC.storeAgg (k := 19) Try.sizeOf36 rfl rfl rfl rfl (by repeat (first | with_reducible exact Pick.here | with_reducible apply Pick.there)) (setWhole rfl) (Nat.le_of_ble_eq_true rfl)) fun _ => ?_
        refine G.done ?_
        refine G.seq ?_
        refine G.seq ?_
        refine G.region ?_
        refine G.yld (by decide) (Yld.move rfl) ?_
        refine G.yld (by decide) (Yld.add_i (b := (1 : Int)) rfl rfl (by omega)) ?_
        refine G.yld (by decide) (Yld.assign rfl) ?_
        refine G.done ?_
        refine G.block ?_
        refine G.loopE (X := Nat × List (Nat × Nat) × Option Addr × Nat) (fun x => [(0, vU32 st), (1, .slice a1 zs.length c1), (2, .slice a2 ar.length c2), (7, ptr b), (8, vI n), (10, ptr b10), (11, vI r), (52, vI m), (53, vI r), (12, vI u), (13, ptr b13), (14, vI (u + 1 + x.1 : Nat))]) (fun x => [lift (Gi h' u x.1 x.2.1 ∧ (x.1 = 0 ∨ u + 1 + x.1 ≤ n)), isF b f, cel true b10 55 (hasC h'), sl false 1 (.slice a1 zs.length c1) zs.length (zs.map vU8), sl false 1 (.slice a2 ar.length c2) ar.length (ar.map vU16), cel true b13 36 (ckv { kind := 3, tsn := st + UInt32.ofNat u - 1 } (.slice x.2.2.1 (x.2.1.map g16).length x.2.2.2) nilS nilS nilS nilS), sl true 2 (.slice x.2.2.1 (x.2.1.map g16).length x.2.2.2) (x.2.1.map g16).length (gpc (x.2.1.map g16))]) (fun x => n - x.1) (0, [], none, 0) (.cons (t := 0) rfl (.cons (t := 1) rfl (.cons (t := 2) rfl (.cons (t := 7) rfl (.cons (t := 8) rfl (.cons (t := 10) rfl (.cons (t := 11) rfl (.cons (t := 52) rfl (.cons (t := 53) rfl (.cons (t := 12) rfl (.cons (t := 13) rfl (.cons (t := 14) rfl .nil)))))))))))) (.cons (.lift ⟨Gi.nil, .inl rfl⟩) (.cons (.pick (A := isF b _) (by repeat (first | with_reducible exact Pick.here | with_reducible apply Pick.there))) (.cons (.pick (A := cel true b10 _ _) (by repeat (first | with_reducible exact Pick.here | with_reducible apply Pick.there))) (.cons (.pick (A := sl false 1 (.slice a1 _ _) _ _) (by repeat (first | with_reducible exact Pick.here | with_reducible apply Pick.there))) (.cons (.pick (A := sl false 1 (.slice a2 _ _) _ _) (by repeat (first | with_reducible exact Pick.here | with_reducible apply Pick.there))) (.cons (.imp (.pick (A := cel true b13 _ _) (by repeat (first | with_reducible exact Pick.here | with_reducible apply Pick.there))) (fun r h => by exact h)) (.cons (.imp .emp fun _ _ => sl_nil) .nil))))))) fun ⟨j, gs, ag, cg⟩ => ?_
        refine G.lift fun hj => ?_
        obtain ⟨hg, hjn⟩ := hj
        simp only at hg hjn
        have hsm := hF.small
        refine G.seq ?_
        refine G.seq ?_
        refine G.region ?_
        refine G.yld (by decide) (Yld.move rfl) ?_
        refine G.yld (by decide) (Yld.move rfl) ?_
        refine G.yld (by decide) (Yld.lss_i rfl rfl) ?_
        refine G.done ?_
        refine G.condP rfl (fun hlt2 => ?_) (fun hlt2 => ?_)
        · have hj2 : u + 1 + j < n := by omega
          refine G.skip ?_
          refine G.seq ?_
          refine G.block ?_
          refine G.seq ?_
          refine G.seq ?_
          refine G.region ?_
          refine G.yld (by decide) (Yld.move rfl) ?_
          refine G.yld (by decide) (Yld.indexAddrA Try.runUnderlying55 Try.sizeOf4 rfl rfl (by omega) (by show ((u + 1 + j : Nat) : Int) < 31; omega)) ?_
          refine G.yld (by decide) (Yld.load rfl Try.isAgg4 (by repeat (first | with_reducible exact Pick.here | with_reducible apply Pick.there)) (by simp only [Int.toNat_natCast, Nat.zero_add, Nat.mul_one]; exact hasC_get (by omega))) ?_
          refine G.yld (by decide) (Yld.not rfl) ?_
          refine G.done ?_
          refine G.cond rfl (fun hb => ?_) (fun hb => ?_)
          · have hb2 : h' (u + 1 + j) = false := by simpa using hb
            refine G.exit ?_
            refine G.x_exit_block (G.x_then ?_)
            refine G.region ?_
            refine G.yld (by decide) (Yld.move rfl) ?_
            refine G.yld (by decide) (Yld.add_i (b := (1 : Int)) rfl rfl (by omega)) ?_
            refine G.yld (by decide) (Yld.assign rfl) ?_
            refine G.done ?_
            refine G.nil ?_
            refine G.x_then ?_
            exact G.againE (j + 1, gs, ag, cg) (by simp only; omega) (.cons (t := 0) rfl (.cons (t := 1) rfl (.cons (t := 2) rfl (.cons (t := 7) rfl (.cons (t := 8) rfl (.cons (t := 10) rfl (.cons (t := 11) rfl (.cons (t := 52) rfl (.cons (t := 53) rfl (.cons (t := 12) rfl (.cons (t := 13) rfl (.as (t := 14) rfl (congrArg vI (by simp only; omega)) .nil)))))))))))) (.cons (.lift ⟨hg.no hb2, .inr (by simp only; omega)⟩) (.cons (.pick (A := isF b _) (by repeat (first | with_reducible exact Pick.here | with_reducible apply Pick.there))) (.cons (.pick (A := cel true b10 _ _) (by repeat (first | with_reducible exact Pick.here | with_reducible apply Pick.there))) (.cons (.pick (A := sl false 1 (.slice a1 _ _) _ _) (by repeat (first | with_reducible exact Pick.here | with_reducible apply Pick.there))) (.cons (.pick (A := sl false 1 (.slice a2 _ _) _ _) (by repeat (first | with_reducible exact Pick.here | with_reducible apply Pick.there))) (.cons (.pick (A := cel true b13 _ _) (by repeat (first | with_reducible exact Pick.here | with_reducible apply Pick.there))) (.cons (.pick (A := sl true 2 _ _ _) (by repeat (first | with_reducible exact Pick.here | with_reducible apply Pick.there))) .nil)))))))
          · have hb2 : h' (u + 1 + j) = true := by simpa using hb
            have hgl := list_last gs
            rcases hgl with hgl | ⟨gs, ⟨ga, gb⟩, hgl⟩
            · subst hgl
              refine G.skip ?_
              refine G.seq ?_
              refine G.region ?_
              refine G.yld (by decide) (Yld.move rfl) ?_
              refine G.yld (by decide) (Yld.move rfl) ?_
              refine G.yld (by decide) (Yld.sub_i rfl rfl (by omega)) ?_
              refine G.yld (by decide) (Yld.add_i (b := (1 : Int)) rfl rfl (by omega)) ?_
              refine G.yld (by decide) (Yld.conv_i_u16 Try.runUnderlying3 Try.runUnderlying30 rfl) ?_
              rw [show UInt16.ofNat ((((u + 1 + j : Nat) : Int) - (u : Int) + 1) % 65536).toNat = UInt16.ofNat (j + 2) by congr 1; omega]
              refine G.yld (by decide) (Yld.assign rfl) ?_
              refine G.done ?_
              refine G.seq ?_
              refine G.region ?_
              refine G.yld (by decide) (Yld.fieldAddr Try_fo36_14 rfl) ?_
              refine G.yld (by decide) (Yld.load rfl Try.isAgg31 (by repeat (first | with_reducible exact Pick.here | with_reducible apply Pick.there)) rfl) ?_
              refine G.yld (by decide) (Yld.len_slice Try.runUnderlying31 rfl) ?_
              refine G.yld (by decide) (Yld.assign rfl) ?_
              refine G.done ?_
              refine G.seq ?_
              refine G.region ?_
              refine G.yld (by decide) (Yld.move rfl) ?_
              refine G.yld (by decide) (Yld.gtr_i (b := (0 : Int)) rfl rfl) ?_
              refine G.as (t := 99) (v := .bool false) rfl (congrArg Value.bool (decide_eq_false (by simp))) ?_
              refine G.yld (by decide) (Yld.move rfl) ?_
              refine G.skipG (by decide) rfl rfl rfl ?_
              refine G.skipG (by decide) rfl rfl rfl ?_
              refine G.skipG (by decide) rfl rfl rfl ?_
              refine G.skipG (by decide) rfl rfl rfl ?_
              refine G.skipG (by decide) rfl rfl rfl ?_
              refine G.skipG (by decide) rfl rfl rfl ?_
              refine G.skipG (by decide) rfl rfl rfl ?_
              refine G.skipG (by decide) rfl rfl rfl ?_
              refine G.skipG (by decide) rfl rfl rfl ?_
              refine G.skipG (by decide) rfl rfl rfl ?_
              refine G.yld (by decide) (Yld.pickF rfl rfl) ?_
              refine G.done ?_
              refine G.condF rfl ?_
              refine G.region ?_
              refine G.yld (by decide) (Yld.fieldAddr Try_fo36_14 rfl) ?_
              refine G.yld (by decide) (Yld.load rfl Try.isAgg31 (by repeat (first | with_reducible exact Pick.here | with_reducible apply Pick.there)) rfl) ?_
              refine G.yld (by decide) (Yld.move rfl) ?_
              refine G.yld (by decide) (Yld.move rfl) ?_
              refine G.yld (by decide) (Yld.buildS (cs := [_, _]) Try_z57 Try_pl57 rfl rfl (.cons rfl rfl (Nat.le_of_ble_eq_true rfl) (.cons rfl rfl (Nat.le_of_ble_eq_true rfl) .nil)) rfl) ?_
              refine G.opc (by decide) (OpC.buildOne (cs := [_, _]) Try.runUnderlying31 Try.sizeOf57 Try.zeroValue57 rfl rfl rfl rfl (by decide)) fun bg => ?_
              refine G.fold (A := sl true 2 (.slice (some ⟨bg, 0, none⟩) 1 1) 1 (gpc [g16 (j + 2, j + 2)])) (.imp (.pick (A := cel _ bg _ _) (by repeat (first | with_reducible exact Pick.here | with_reducible apply Pick.there))) (fun r h => sl_row (k := 2) (n := 1) rfl r (by exact h))) ?_
              refine G.opc (by decide) (OpC.appendE (kk := 2) (bytes := 4) Try.underlying31 Try.type57 rfl rfl rfl rfl rfl Try.underlying31 rfl rfl (show Pick _ (sl true 2 (.slice ag _ _) _ _) _ from by repeat (first | with_reducible exact Pick.here | with_reducible apply Pick.there)) (by repeat (first | with_reducible exact Pick.here | with_reducible apply Pick.there)) (gpc_cell _) (room_of _ _ (by decide) (by have h1 := hg.count; show (List.map g16 []).length + 1 ≤ 30000000000; rw [List.length_map]; omega)) rfl (gpc_app _ _).symm) fun vg => ?_
              refine G.slv fun ag2 cg2 hvg hlg hcg => ?_
              subst hvg
              refine G.yld (by decide) (Yld.fieldAddr Try_fo36_14 rfl) ?_
              refine G.op0  (OpC.storeS (.succ (.succ (.succ (.succ (.succ (.succ (.succ (.succ (.succ (.succ (.succ (.succ (.succ (.succ .zero)))))))))))))) Try.sizeOf31 rfl rfl rfl (by repeat (first | with_reducible exact Pick.here | with_reducible apply Pick.there))) fun _ => ?_
              refine G.done ?_
              refine G.nil ?_
              refine G.x_block (G.x_then ?_)
              refine G.region ?_
              refine G.yld (by decide) (Yld.move rfl) ?_
              refine G.yld (by decide) (Yld.add_i (b := (1 : Int)) rfl rfl (by omega)) ?_
              refine G.yld (by decide) (Yld.assign rfl) ?_
              refine G.done ?_
              refine G.nil ?_
              refine G.x_then ?_
              exact G.againE (j + 1, [] ++ [(j + 2, j + 2)], ag2, cg2) (by simp only; omega) (.cons (t := 0) rfl (.cons (t := 1) rfl (.cons (t := 2) rfl (.cons (t := 7) rfl (.cons (t := 8) rfl (.cons (t := 10) rfl (.cons (t := 11) rfl (.cons (t := 52) rfl (.cons (t := 53) rfl (.cons (t := 12) rfl (.cons (t := 13) rfl (.as (t := 14) rfl (congrArg vI (by simp only; omega)) .nil)))))))))))) (.cons (.lift ⟨(hg.new hb2 (fun x hx => by cases hx)), .inr (by simp only; omega)⟩) (.cons (.pick (A := isF b _) (by repeat (first | with_reducible exact Pick.here | with_reducible apply Pick.there))) (.cons (.pick (A := cel true b10 _ _) (by repeat (first | with_reducible exact Pick.here | with_reducible apply Pick.there))) (.cons (.pick (A := sl false 1 (.slice a1 _ _) _ _) (by repeat (first | with_reducible exact Pick.here | with_reducible apply Pick.there))) (.cons (.pick (A := sl false 1 (.slice a2 _ _) _ _) (by repeat (first | with_reducible exact Pick.here | with_reducible apply Pick.there))) (.cons (.imp (.pick (A := cel true b13 _ _) (by repeat (first | with_reducible exact Pick.here | with_reducible apply Pick.there))) (fun r h => by simpa using h)) (.cons (.imp (.pick (A := sl true 2 (.slice ag2 _ _) _ _) (by repeat (first | with_reducible exact Pick.here | with_reducible apply Pick.there))) (fun r h => by simpa using h)) .nil)))))))
            · subst hgl
              have hlen1 : (0 : Int) < ((((gs ++ [(ga, gb)]).map g16).length : Nat) : Int) := by rw [List.length_map, List.length_append]; show (0 : Int) < ((gs.length + 1 : Nat) : Int); omega
              have hcnt : ((gs ++ [(ga, gb)]).map g16).length ≤ 100 := by have h1 := hg.count; rw [List.length_map]; omega
              by_cases hgb : gb = j + 1
              · subst hgb
                refine G.skip ?_
                refine G.seq ?_
                refine G.region ?_
                refine G.yld (by decide) (Yld.move rfl) ?_
                refine G.yld (by decide) (Yld.move rfl) ?_
                refine G.yld (by decide) (Yld.sub_i rfl rfl (by omega)) ?_
                refine G.yld (by decide) (Yld.add_i (b := (1 : Int)) rfl rfl (by omega)) ?_
                refine G.yld (by decide) (Yld.conv_i_u16 Try.runUnderlying3 Try.runUnderlying30 rfl) ?_
                rw [show UInt16.ofNat ((((u + 1 + j : Nat) : Int) - (u : Int) + 1) % 65536).toNat = UInt16.ofNat (j + 2) by congr 1; omega]
                refine G.yld (by decide) (Yld.assign rfl) ?_
                refine G.done ?_
                refine G.seq ?_
                refine G.region ?_
                refine G.yld (by decide) (Yld.fieldAddr Try_fo36_14 rfl) ?_
                refine G.yld (by decide) (Yld.load rfl Try.isAgg31 (by repeat (first | with_reducible exact Pick.here | with_reducible apply Pick.there)) rfl) ?_
                refine G.yld (by decide) (Yld.len_slice Try.runUnderlying31 rfl) ?_
                refine G.yld (by decide) (Yld.assign rfl) ?_
                refine G.done ?_
                refine G.seq ?_
                refine G.region ?_
                refine G.yld (by decide) (Yld.move rfl) ?_
                refine G.yld (by decide) (Yld.gtr_i (b := (0 : Int)) rfl rfl) ?_
                refine G.as (t := 99) (v := .bool true) rfl (congrArg Value.bool (decide_eq_true hlen1)) ?_
                refine G.yld (by decide) (Yld.move rfl) ?_
                refine G.yldG (by decide) rfl rfl (Yld.fieldAddr Try_fo36_14 rfl) ?_
                refine G.yldG (by decide) rfl rfl (Yld.load rfl Try.isAgg31 (by repeat (first | with_reducible exact Pick.here | with_reducible apply Pick.there)) rfl) ?_
                refine G.yldG (by decide) rfl rfl (Yld.move rfl) ?_
                refine G.yldG (by decide) rfl rfl (Yld.sub_i (b := (1 : Int)) rfl rfl (by simp only; omega)) ?_
                refine G.yldG (by decide) rfl rfl (Yld.indexE Try.runUnderlying31 Try.sizeOf57 rfl rfl (show Pick _ (sl true 2 _ _ _) _ from by repeat (first | with_reducible exact Pick.here | with_reducible apply Pick.there)) (by decide) (by simp only; omega) (by simp only; omega)) ?_
                refine G.yldG (by decide) rfl rfl (Yld.fieldE Try_fo57_1 rfl (show Pick _ (sl true 2 _ _ _) _ from by repeat (first | with_reducible exact Pick.here | with_reducible apply Pick.there)) (by rw [gpc_length]; simp only; omega)) ?_
                refine G.yldG (by decide) rfl rfl (Yld.loadE (v := vU16 (UInt16.ofNat (j + 1))) Try.isAgg30 rfl (show Pick _ (sl true 2 _ _ _) _ from by repeat (first | with_reducible exact Pick.here | with_reducible apply Pick.there)) gpc_last) ?_
                refine G.yldG (by decide) rfl rfl (Yld.move rfl) ?_
                refine G.yldG (by decide) rfl rfl (Yld.sub_u16 (b := (1 : UInt16)) rfl rfl) ?_
                rw [show UInt16.ofNat (j + 2) - 1 = UInt16.ofNat (j + 1) by rw [show j + 2 = (j + 1) + 1 by omega, UInt16.ofNat_add]; simp]
                refine G.yldG (by decide) rfl rfl (Yld.eql_u16 rfl rfl) ?_
                refine G.as (t := 110) (v := .bool true) rfl (congrArg Value.bool (decide_eq_true rfl)) ?_
                refine G.yld (by decide) (Yld.pickT rfl rfl) ?_
                refine G.done ?_
                refine G.condT rfl ?_
                refine G.region ?_
                refine G.yld (by decide) (Yld.fieldAddr Try_fo36_14 rfl) ?_
                refine G.yld (by decide) (Yld.load rfl Try.isAgg31 (by repeat (first | with_reducible exact Pick.here | with_reducible apply Pick.there)) rfl) ?_
                refine G.yld (by decide) (Yld.move rfl) ?_
                refine G.yld (by decide) (Yld.sub_i (b := (1 : Int)) rfl rfl (by simp only; omega)) ?_
                refine G.yld (by decide) (Yld.move rfl) ?_
                refine G.yld (by decide) (Yld.indexE Try.runUnderlying31 Try.sizeOf57 rfl rfl (show Pick _ (sl true 2 _ _ _) _ from by repeat (first | with_reducible exact Pick.here | with_reducible apply Pick.there)) (by decide) (by simp only; omega) (by simp only; omega)) ?_
                refine G.yld (by decide) (Yld.fieldE Try_fo57_1 rfl (show Pick _ (sl true 2 _ _ _) _ from by repeat (first | with_reducible exact Pick.here | with_reducible apply Pick.there)) (by rw [gpc_length]; simp only; omega)) ?_
                refine G.op0  (OpC.storeE Try.sizeOf30 rfl rfl rfl (show Pick _ (sl true 2 _ _ _) _ from by repeat (first | with_reducible exact Pick.here | with_reducible apply Pick.there)) (by rw [gpc_length]; simp only; omega)) fun _ => ?_
                rw [gpc_put]
                refine G.done ?_
                refine G.nil ?_
                refine G.x_block (G.x_then ?_)
                refine G.region ?_
                refine G.yld (by decide) (Yld.move rfl) ?_
                refine G.yld (by decide) (Yld.add_i (b := (1 : Int)) rfl rfl (by omega)) ?_
                refine G.yld (by decide) (Yld.assign rfl) ?_
                refine G.done ?_
                refine G.nil ?_
                refine G.x_then ?_
                exact G.againE (j + 1, gs ++ [(ga, j + 2)], ag, cg) (by simp only; omega) (.cons (t := 0) rfl (.cons (t := 1) rfl (.cons (t := 2) rfl (.cons (t := 7) rfl (.cons (t := 8) rfl (.cons (t := 10) rfl (.cons (t := 11) rfl (.cons (t := 52) rfl (.cons (t := 53) rfl (.cons (t := 12) rfl (.cons (t := 13) rfl (.as (t := 14) rfl (congrArg vI (by simp only; omega)) .nil)))))))))))) (.cons (.lift ⟨hg.more hb2, .inr (by simp only; omega)⟩) (.cons (.pick (A := isF b _) (by repeat (first | with_reducible exact Pick.here | with_reducible apply Pick.there))) (.cons (.pick (A := cel true b10 _ _) (by repeat (first | with_reducible exact Pick.here | with_reducible apply Pick.there))) (.cons (.pick (A := sl false 1 (.slice a1 _ _) _ _) (by repeat (first | with_reducible exact Pick.here | with_reducible apply Pick.there))) (.cons (.pick (A := sl false 1 (.slice a2 _ _) _ _) (by repeat (first | with_reducible exact Pick.here | with_reducible apply Pick.there))) (.cons (.imp (.pick (A := cel true b13 _ _) (by repeat (first | with_reducible exact Pick.here | with_reducible apply Pick.there))) (fun r h => by simpa using h)) (.cons (.imp (.pick (A := sl true 2 _ _ _) (by repeat (first | with_reducible exact Pick.here | with_reducible apply Pick.there))) (fun r h => by simpa using h)) .nil)))))))
              · have hgb2 : gb < 60000 := by have h1 := hg.each (ga, gb) (by simp); simp only at h1; omega
                refine G.skip ?_
                refine G.seq ?_
                refine G.region ?_
                refine G.yld (by decide) (Yld.move rfl) ?_
                refine G.yld (by decide) (Yld.move rfl) ?_
                refine G.yld (by decide) (Yld.sub_i rfl rfl (by omega)) ?_
                refine G.yld (by decide) (Yld.add_i (b := (1 : Int)) rfl rfl (by omega)) ?_
                refine G.yld (by decide) (Yld.conv_i_u16 Try.runUnderlying3 Try.runUnderlying30 rfl) ?_
                rw [show UInt16.ofNat ((((u + 1 + j : Nat) : Int) - (u : Int) + 1) % 65536).toNat = UInt16.ofNat (j + 2) by congr 1; omega]
                refine G.yld (by decide) (Yld.assign rfl) ?_
                refine G.done ?_
                refine G.seq ?_
                refine G.region ?_
                refine G.yld (by decide) (Yld.fieldAddr Try_fo36_14 rfl) ?_
                refine G.yld (by decide) (Yld.load rfl Try.isAgg31 (by repeat (first | with_reducible exact Pick.here | with_reducible apply Pick.there)) rfl) ?_
                refine G.yld (by decide) (Yld.len_slice Try.runUnderlying31 rfl) ?_
                refine G.yld (by decide) (Yld.assign rfl) ?_
                refine G.done ?_
                refine G.seq ?_
                refine G.region ?_
                refine G.yld (by decide) (Yld.move rfl) ?_
                refine G.yld (by decide) (Yld.gtr_i (b := (0 : Int)) rfl rfl) ?_
                refine G.as (t := 99) (v := .bool true) rfl (congrArg Value.bool (decide_eq_true hlen1)) ?_
                refine G.yld (by decide) (Yld.move rfl) ?_
                refine G.yldG (by decide) rfl rfl (Yld.fieldAddr Try_fo36_14 rfl) ?_
                refine G.yldG (by decide) rfl rfl (Yld.load rfl Try.isAgg31 (by repeat (first | with_reducible exact Pick.here | with_reducible apply Pick.there)) rfl) ?_
                refine G.yldG (by decide) rfl rfl (Yld.move rfl) ?_
                refine G.yldG (by decide) rfl rfl (Yld.sub_i (b := (1 : Int)) rfl rfl (by simp only; omega)) ?_
                refine G.yldG (by decide) rfl rfl (Yld.indexE Try.runUnderlying31 Try.sizeOf57 rfl rfl (show Pick _ (sl true 2 _ _ _) _ from by repeat (first | with_reducible exact Pick.here | with_reducible apply Pick.there)) (by decide) (by simp only; omega) (by simp only; omega)) ?_
                refine G.yldG (by decide) rfl rfl (Yld.fieldE Try_fo57_1 rfl (show Pick _ (sl true 2 _ _ _) _ from by repeat (first | with_reducible exact Pick.here | with_reducible apply Pick.there)) (by rw [gpc_length]; simp only; omega)) ?_
                refine G.yldG (by decide) rfl rfl (Yld.loadE (v := vU16 (UInt16.ofNat gb)) Try.isAgg30 rfl (show Pick _ (sl true 2 _ _ _) _ from by repeat (first | with_reducible exact Pick.here | with_reducible apply Pick.there)) gpc_last) ?_
                refine G.yldG (by decide) rfl rfl (Yld.move rfl) ?_
                refine G.yldG (by decide) rfl rfl (Yld.sub_u16 (b := (1 : UInt16)) rfl rfl) ?_
                rw [show UInt16.ofNat (j + 2) - 1 = UInt16.ofNat (j + 1) by rw [show j + 2 = (j + 1) + 1 by omega, UInt16.ofNat_add]; simp]
                refine G.yldG (by decide) rfl rfl (Yld.eql_u16 rfl rfl) ?_
                refine G.as (t := 110) (v := .bool false) rfl (congrArg Value.bool (decide_eq_false (fun e => hgb (by have h1 := congrArg UInt16.toNat e; rw [UInt16.toNat_ofNat_of_lt' (by show gb < 65536; omega), UInt16.toNat_ofNat_of_lt' (by show j + 1 < 65536; omega)] at h1; exact h1)))) ?_
                refine G.yld (by decide) (Yld.pickT rfl rfl) ?_
                refine G.done ?_
                refine G.condF rfl ?_
                refine G.region ?_
                refine G.yld (by decide) (Yld.fieldAddr Try_fo36_14 rfl) ?_
                refine G.yld (by decide) (Yld.load rfl Try.isAgg31 (by repeat (first | with_reducible exact Pick.here | with_reducible apply Pick.there)) rfl) ?_
                refine G.yld (by decide) (Yld.move rfl) ?_
                refine G.yld (by decide) (Yld.move rfl) ?_
                refine G.yld (by decide) (Yld.buildS (cs := [_, _]) Try_z57 Try_pl57 rfl rfl (.cons rfl rfl (Nat.le_of_ble_eq_true rfl) (.cons rfl rfl (Nat.le_of_ble_eq_true rfl) .nil)) rfl) ?_
                refine G.opc (by decide) (OpC.buildOne (cs := [_, _]) Try.runUnderlying31 Try.sizeOf57 Try.zeroValue57 rfl rfl rfl rfl (by decide)) fun bg => ?_
                refine G.fold (A := sl true 2 (.slice (some ⟨bg, 0, none⟩) 1 1) 1 (gpc [g16 (j + 2, j + 2)])) (.imp (.pick (A := cel _ bg _ _) (by repeat (first | with_reducible exact Pick.here | with_reducible apply Pick.there))) (fun r h => sl_row (k := 2) (n := 1) rfl r (by exact h))) ?_
                refine G.opc (by decide) (OpC.appendE (kk := 2) (bytes := 4) Try.underlying31 Try.type57 rfl rfl rfl rfl rfl Try.underlying31 rfl rfl (show Pick _ (sl true 2 (.slice ag _ _) _ _) _ from by repeat (first | with_reducible exact Pick.here | with_reducible apply Pick.there)) (by repeat (first | with_reducible exact Pick.here | with_reducible apply Pick.there)) (gpc_cell _) (room_of _ _ (by decide) (by have h1 := hg.count; show (List.map g16 (gs ++ [(ga, gb)])).length + 1 ≤ 30000000000; rw [List.length_map]; omega)) rfl (gpc_app _ _).symm) fun vg => ?_
                refine G.slv fun ag2 cg2 hvg hlg hcg => ?_
                subst hvg
                refine G.yld (by decide) (Yld.fieldAddr Try_fo36_14 rfl) ?_
                refine G.op0  (OpC.storeS (.succ (.succ (.succ (.succ (.succ (.succ (.succ (.succ (.succ (.succ (.succ (.succ (.succ (.succ .zero)))))))))))))) Try.sizeOf31 rfl rfl rfl (by repeat (first | with_reducible exact Pick.here | with_reducible apply Pick.there))) fun _ => ?_
                refine G.done ?_
                refine G.nil ?_
                refine G.x_block (G.x_then ?_)
                refine G.region ?_
                refine G.yld (by decide) (Yld.move rfl) ?_
                refine G.yld (by decide) (Yld.add_i (b := (1 : Int)) rfl rfl (by omega)) ?_
                refine G.yld (by decide) (Yld.assign rfl) ?_
                refine G.done ?_
                refine G.nil ?_
                refine G.x_then ?_
                exact G.againE (j + 1, (gs ++ [(ga, gb)]) ++ [(j + 2, j + 2)], ag2, cg2) (by simp only; omega) (.cons (t := 0) rfl (.cons (t := 1) rfl (.cons (t := 2) rfl (.cons (t := 7) rfl (.cons (t := 8) rfl (.cons (t := 10) rfl (.cons (t := 11) rfl (.cons (t := 52) rfl (.cons (t := 53) rfl (.cons (t := 12) rfl (.cons (t := 13) rfl (.as (t := 14) rfl (congrArg vI (by simp only; omega)) .nil)))))))))))) (.cons (.lift ⟨(hg.new hb2 (hg.low hgb)), .inr (by simp only; omega)⟩) (.cons (.pick (A := isF b _) (by repeat (first | with_reducible exact Pick.here | with_reducible apply Pick.there))) (.cons (.pick (A := cel true b10 _ _) (by repeat (first | with_reducible exact Pick.here | with_reducible apply Pick.there))) (.cons (.pick (A := sl false 1 (.slice a1 _ _) _ _) (by repeat (first | with_reducible exact Pick.here | with_reducible apply Pick.there))) (.cons (.pick (A := sl false 1 (.slice a2 _ _) _ _) (by repeat (first | with_reducible exact Pick.here | with_reducible apply Pick.there))) (.cons (.imp (.pick (A := cel true b13 _ _) (by repeat (first | with_reducible exact Pick.here | with_reducible apply Pick.there))) (fun r h => by simpa using h)) (.cons (.imp (.pick (A := sl true 2 (.slice ag2 _ _) _ _) (by repeat (first | with_reducible exact Pick.here | with_reducible apply Pick.there))) (fun r h => by simpa using h)) .nil)))))))
        · have hjj : j = n - u - 1 := by omega
          subst hjj
          have hack := hF.ack hsub hupu hun hnu hg (fun e => (show Gi h' u 0 gs from by rw [show n - u - 1 = 0 by omega] at hg; exact hg).zero) 5
          obtain ⟨f2, hf2⟩ : ∃ f2, (f.ack 3 (st + UInt32.ofNat u - 1) (gs.map g16) 5).2 = f2 := ⟨_, rfl⟩
          obtain ⟨hbad, hA2⟩ := hack
          rw [hf2] at hA2
          refine G.exit ?_
          refine G.x_exit_then (G.x_exit_then ?_)
          refine G.x_exit_block (G.x_then ?_)
          refine G.unframe (by repeat (first | exact App.nil | apply App.cons)) ?_
          refine G.seq ?_
          refine G.seq ?_
          refine G.region ?_
          refine G.yld (by decide) (Yld.move rfl) ?_
          refine G.yld (by decide) (Yld.loadAgg (cs := [_, _, _, _, _, _, _, _, _, _, _, _, _, _, _, _, _, _, _]) rfl Try.isAgg36 Try.sizeOf36 (by repeat (first | with_reducible exact Pick.here | with_reducible apply Pick.there)) rfl (aggAt rfl)) ?_
          refine G.opc (by decide) (OpC.call Try.call17 rfl (ack_spec (m := true) b f { kind := 3, tsn := st + UInt32.ofNat u - 1 } (.slice ag (gs.map g16).length cg) (gs.map g16) 5 hF.ok (by have := hg.count; simp; omega)) (.cons (by repeat (first | with_reducible exact Pick.here | with_reducible apply Pick.there)) (.cons (by repeat (first | with_reducible exact Pick.here | with_reducible apply Pick.there)) .nil))) fun _ => ?_
          refine G.star ?_
          refine G.lift ?_
          rintro rfl
          refine G.star ?_
          simp only [Acked.val]
          rw [hf2]
          refine G.yld (by decide) (Yld.field Try_fa59_4 rfl rfl) ?_
          refine G.as (t := 130) (v := .bool false) rfl (congrArg Value.bool hbad) ?_
          refine G.done ?_
          refine G.condF rfl ?_
          refine G.skip ?_
          refine G.seq ?_
          refine G.region ?_
          refine G.yld (by decide) (Yld.move rfl) ?_
          refine G.opc (by decide) (OpC.call Try.call18 rfl (late_spec b f2 (by have := hA2.ok.len; exact this)) (.cons (by repeat (first | with_reducible exact Pick.here | with_reducible apply Pick.there)) .nil)) fun _ => ?_
          refine G.star ?_
          refine G.lift ?_
          rintro rfl
          refine G.done ?_
          refine G.seq ?_
          refine G.seq ?_
          refine G.region ?_
          refine G.yld (by decide) (Yld.move rfl) ?_
          refine G.yld (by decide) (Yld.move rfl) ?_
          refine G.done ?_
          refine G.block ?_
          refine G.loopE (X := Nat × Fm) (fun x => [(0, vU32 st), (1, .slice a1 zs.length c1), (2, .slice a2 ar.length c2), (7, ptr b), (8, vI n), (10, ptr b10), (11, vI r), (52, vI m), (53, vI r), (133, vI n), (134, vI x.1)]) (fun x => [lift (x.1 ≤ n ∧ Ar st zs n u (Q3 h' x.1) x.2), isF b x.2, cel true b10 55 (hasC h'), sl false 1 (.slice a1 zs.length c1) zs.length (zs.map vU8), sl false 1 (.slice a2 ar.length c2) ar.length (ar.map vU16)]) (fun x => n - x.1) (0, f2.late) (.cons (t := 0) rfl (.cons (t := 1) rfl (.cons (t := 2) rfl (.cons (t := 7) rfl (.cons (t := 8) rfl (.cons (t := 10) rfl (.cons (t := 11) rfl (.cons (t := 52) rfl (.cons (t := 53) rfl (.cons (t := 133) rfl (.cons (t := 134) rfl .nil))))))))))) (.cons (.lift ⟨Nat.zero_le _, hA2.late⟩) (.cons (.pick (A := isF b _) (by repeat (first | with_reducible exact Pick.here | with_reducible apply Pick.there))) (.cons (.pick (A := cel true b10 _ _) (by repeat (first | with_reducible exact Pick.here | with_reducible apply Pick.there))) (.cons (.pick (A := sl false 1 (.slice a1 _ _) _ _) (by repeat (first | with_reducible exact Pick.here | with_reducible apply Pick.there))) (.cons (.pick (A := sl false 1 (.slice a2 _ _) _ _) (by repeat (first | with_reducible exact Pick.here | with_reducible apply Pick.there))) .nil))))) fun ⟨i, f3⟩ => ?_
          refine G.lift fun hi => ?_
          obtain ⟨hi, hA3⟩ := hi
          simp only at hi hA3
          refine G.seq ?_
          refine G.region ?_
          refine G.yld (by decide) (Yld.lss_i rfl rfl) ?_
          refine G.done ?_
          refine G.seq ?_
          refine G.condP rfl (fun hlt3 => ?_) (fun hlt3 => ?_)
          · have hi2 : i < n := by omega
            refine G.skip ?_
            refine G.seq ?_
            refine G.block ?_
            refine G.seq ?_
            refine G.region ?_
            refine G.yld (by decide) (Yld.move rfl) ?_
            refine G.yld (by decide) (Yld.assign rfl) ?_
            refine G.done ?_
            refine G.seq ?_
            refine G.seq ?_
            refine G.region ?_
            refine G.yld (by decide) (Yld.move rfl) ?_
            refine G.yld (by decide) (Yld.indexAddrA Try.runUnderlying55 Try.sizeOf4 rfl rfl (by omega) (by show (i : Int) < 31; omega)) ?_
            refine G.yld (by decide) (Yld.load rfl Try.isAgg4 (by repeat (first | with_reducible exact Pick.here | with_reducible apply Pick.there)) (by simp only [Int.toNat_natCast, Nat.zero_add, Nat.mul_one]; exact hasC_get (by omega))) ?_
            refine G.done ?_
            refine G.cond rfl (fun hb => ?_) (fun hb => ?_)
            · refine G.exit ?_
              refine G.x_exit_block (G.x_then ?_)
              refine G.region ?_
              refine G.yld (by decide) (Yld.add_i (b := (1 : Int)) rfl rfl (by omega)) ?_
              refine G.yld (by decide) (Yld.move rfl) ?_
              refine G.done ?_
              refine G.nil ?_
              refine G.x_then ?_
              exact G.againE (i + 1, f3) (by simp only; omega) (.cons (t := 0) rfl (.cons (t := 1) rfl (.cons (t := 2) rfl (.cons (t := 7) rfl (.cons (t := 8) rfl (.cons (t := 10) rfl (.cons (t := 11) rfl (.cons (t := 52) rfl (.cons (t := 53) rfl (.cons (t := 133) rfl (.cons (t := 134) rfl .nil))))))))))) (.cons (.lift ⟨by simp only; omega, hA3.skip hb⟩) (.cons (.pick (A := isF b _) (by repeat (first | with_reducible exact Pick.here | with_reducible apply Pick.there))) (.cons (.pick (A := cel true b10 _ _) (by repeat (first | with_reducible exact Pick.here | with_reducible apply Pick.there))) (.cons (.pick (A := sl false 1 (.slice a1 _ _) _ _) (by repeat (first | with_reducible exact Pick.here | with_reducible apply Pick.there))) (.cons (.pick (A := sl false 1 (.slice a2 _ _) _ _) (by repeat (first | with_reducible exact Pick.here | with_reducible apply Pick.there))) .nil)))))
            · have hz := (kAt zs i).toNat_lt
              have hui : u ≤ i := Nat.le_of_not_lt fun h1 => by rw [hall i h1] at hb; cases hb
              obtain ⟨now, hnow⟩ : ∃ now, UInt32.ofNat ((r : Int) % 4294967296).toNat = now := ⟨_, rfl⟩
              obtain ⟨p, hp1, hp2, hp3⟩ := hA3.again hb hui hi2 now
              refine G.skip ?_
              refine G.seq ?_
              refine G.region ?_
              refine G.yld (by decide) (Yld.move rfl) ?_
              refine G.yld (by decide) (Yld.move rfl) ?_
              refine G.yld (by decide) (Yld.conv_i_u32 Try.runUnderlying3 Try.runUnderlying22 rfl) ?_
              rw [hnow]
              refine G.opc (by decide) (OpC.call Try.call19 rfl (again_spec b f3 now hA3.ok) (.cons (by repeat (first | with_reducible exact Pick.here | with_reducible apply Pick.there)) .nil)) fun _ => ?_
              refine G.ex fun bv => ?_
              refine G.star ?_
              refine G.lift ?_
              rintro rfl
              refine G.star ?_
              rw [hp1]
              refine G.pick (A := sl true 1 bv _ _) (by repeat (first | with_reducible exact Pick.here | with_reducible apply Pick.there)) (G.slv fun ab cb hvb hlb hcb => ?_)
              subst hvb
              refine G.yld (by decide) (Yld.move rfl) ?_
              refine G.yld (by decide) (Yld.extract rfl rfl) ?_
              refine G.yld (by decide) (Yld.extract rfl rfl) ?_
              refine G.opc (by decide) (OpC.alloc (cs := [.int .u8 0, .bool false, .bool false, .bool false, .bool false, .int .u32 0, .int .u16 0, .int .u32 0, .int .u32 0, .int .u32 0, .int .u32 0, .int .u32 0, .int .u16 0, .int .u16 0, .slice none 0 0, .slice none 0 0, .slice none 0 0, .slice none 0 0, .slice none 0 0]) Try.zeroValue36 rfl) fun b18 => ?_
              refine G.op0  (OpC.storeAgg (k := 19) Try.sizeOf36 rfl rfl rfl rfl (by repeat (first | with_reducible exact Pick.here | with_reducible apply Pick.there)) (setWhole rfl) (Nat.le_of_ble_eq_true rfl)) fun _ => ?_
              refine G.yld (by decide) (Yld.assign rfl) ?_
              refine G.done ?_
              refine G.seq ?_
              refine G.draw Try_mixed (.still 0 (.still 1 (.still 2 (.still 3 (.still 4 (.still 5 (.still 6 (.still 7 (.still 8 (.still 9 (.still 10 (.still 11 (.still 12 (.still 13 (.still 14 (.still 15 (.still 16 (.still 17 (.still 18 (.still 19 (.still 20 (.still 21 (.still 22 (.still 23 (.still 24 (.still 25 (.still 26 (.still 27 (.still 28 (.still 29 (.done))))))))))))))))))))))))))))))) (by kernel_rfl) (Picks.refl _) ?_
              refine GO.yld (i := 0) rfl (by decide) (Yld.move rfl) ?_
              refine GO.yld (i := 1) rfl (by decide) (Yld.not rfl) ?_
              refine GO.yld (i := 2) rfl (by decide) (Yld.move rfl) ?_
              refine GO.yldG (i := 3) rfl (by decide) rfl rfl (Yld.fieldAddr Try_fo36_5 rfl) ?_
              refine GO.yldG (i := 4) rfl (by decide) rfl rfl (Yld.load rfl Try.isAgg22 (by repeat (first | with_reducible exact Pick.here | with_reducible apply Pick.there)) rfl) ?_
              refine GO.yldG (i := 5) rfl (by decide) rfl rfl (Yld.move rfl) ?_
              refine GO.yldG (i := 6) rfl (by decide) rfl rfl (Yld.move rfl) ?_
              refine GO.yldG (i := 7) rfl (by decide) rfl rfl (Yld.conv_i_u32 Try.runUnderlying3 Try.runUnderlying22 rfl) ?_
              rw [cast32 (by omega)]
              refine GO.yldG (i := 8) rfl (by decide) rfl rfl (Yld.add_u32 rfl rfl) ?_
              refine GO.yldG (i := 9) rfl (by decide) rfl rfl (Yld.neq_u32 rfl rfl) ?_
              refine GO.as (t := 156) (v := .bool false) rfl (congrArg Value.bool (decide_eq_false (not_not_intro hp2.tsn))) ?_
              refine GO.yld (i := 10) rfl (by decide) (Yld.pickF rfl rfl) ?_
              refine GO.yld (i := 11) rfl (by decide) (Yld.move rfl) ?_
              refine GO.yldG (i := 12) rfl (by decide) rfl rfl (Yld.fieldAddr Try_fo36_7 rfl) ?_
              refine GO.yldG (i := 13) rfl (by decide) rfl rfl (Yld.load rfl Try.isAgg22 (by repeat (first | with_reducible exact Pick.here | with_reducible apply Pick.there)) rfl) ?_
              refine GO.yldG (i := 14) rfl (by decide) rfl rfl (Yld.move rfl) ?_
              refine GO.yldG (i := 15) rfl (by decide) rfl rfl (Yld.conv_i_u32 Try.runUnderlying3 Try.runUnderlying22 rfl) ?_
              rw [cast32 (by omega)]
              refine GO.yldG (i := 16) rfl (by decide) rfl rfl (Yld.neq_u32 rfl rfl) ?_
              refine GO.as (t := 163) (v := .bool false) rfl (congrArg Value.bool (decide_eq_false (not_not_intro hp2.mid))) ?_
              refine GO.yld (i := 17) rfl (by decide) (Yld.pickF rfl rfl) ?_
              refine GO.yld (i := 18) rfl (by decide) (Yld.move rfl) ?_
              refine GO.yldG (i := 19) rfl (by decide) rfl rfl (Yld.fieldAddr Try_fo36_18 rfl) ?_
              refine GO.yldG (i := 20) rfl (by decide) rfl rfl (Yld.load rfl Try.isAgg23 (by repeat (first | with_reducible exact Pick.here | with_reducible apply Pick.there)) rfl) ?_
              refine GO.yldG (i := 21) rfl (by decide) rfl rfl (Yld.len_slice Try.runUnderlying23 rfl) ?_
              refine GO.yldG (i := 22) rfl (by decide) rfl rfl (Yld.move rfl) ?_
              refine GO.yldG (i := 23) rfl (by decide) rfl rfl (Yld.move rfl) ?_
              refine GO.yldG (i := 24) rfl (by decide) rfl rfl (Yld.indexE Try.runUnderlying23 Try.sizeOf5 rfl rfl (show Pick _ (sl false 1 (.slice a1 _ _) _ _) _ from by repeat (first | with_reducible exact Pick.here | with_reducible apply Pick.there)) (by decide) (by omega) (by omega)) ?_
              refine GO.yldG (i := 25) rfl (by decide) rfl rfl (Yld.loadE (v := vU8 (kAt zs i)) Try.isAgg5 rfl (show Pick _ (sl false 1 (.slice a1 _ _) _ _) _ from by repeat (first | with_reducible exact Pick.here | with_reducible apply Pick.there)) (by rw [List.getElem?_map]; simp [kAt, List.getD_eq_getElem?_getD, List.getElem?_eq_getElem (show i < zs.length by omega)])) ?_
              refine GO.yldG (i := 26) rfl (by decide) rfl rfl (Yld.conv_u8_i Try.runUnderlying5 Try.runUnderlying3 rfl) ?_
              refine GO.yldG (i := 27) rfl (by decide) rfl rfl (Yld.add_i (a := (1 : Int)) rfl rfl (by omega)) ?_
              refine GO.yldG (i := 28) rfl (by decide) rfl rfl (Yld.neq_i rfl rfl) ?_
              refine GO.as (t := 175) (v := .bool false) rfl (congrArg Value.bool (decide_eq_false (not_not_intro (by show ((p.body.length : Nat) : Int) = _; rw [hp2.body]; omega)))) ?_
              refine GO.yld (i := 29) rfl (by decide) (Yld.pickF rfl rfl) ?_
              refine GO.done ?_
              refine G.condF rfl ?_
              refine G.skip ?_
              refine G.nil ?_
              refine G.x_block (G.x_then ?_)
              refine G.region ?_
              refine G.yld (by decide) (Yld.add_i (b := (1 : Int)) rfl rfl (by omega)) ?_
              refine G.yld (by decide) (Yld.move rfl) ?_
              refine G.done ?_
              refine G.nil ?_
              refine G.x_then ?_
              exact G.againE (i + 1, (f3.again now).2) (by simp only; omega) (.cons (t := 0) rfl (.cons (t := 1) rfl (.cons (t := 2) rfl (.cons (t := 7) rfl (.cons (t := 8) rfl (.cons (t := 10) rfl (.cons (t := 11) rfl (.cons (t := 52) rfl (.cons (t := 53) rfl (.cons (t := 133) rfl (.cons (t := 134) rfl .nil))))))))))) (.cons (.lift ⟨by simp only; omega, hp3⟩) (.cons (.pick (A := isF b _) (by repeat (first | with_reducible exact Pick.here | with_reducible apply Pick.there))) (.cons (.pick (A := cel true b10 _ _) (by repeat (first | with_reducible exact Pick.here | with_reducible apply Pick.there))) (.cons (.pick (A := sl false 1 (.slice a1 _ _) _ _) (by repeat (first | with_reducible exact Pick.here | with_reducible apply Pick.there))) (.cons (.pick (A := sl false 1 (.slice a2 _ _) _ _) (by repeat (first | with_reducible exact Pick.here | with_reducible apply Pick.there))) .nil)))))
          · have hi2 : i = n := by omega
            subst hi2
            have hno := hA3.none 9
            refine G.exit ?_
            refine G.x_exit_then (G.x_exit_then ?_)
            refine G.x_exit_block (G.x_then ?_)
            refine G.unframe (by repeat (first | exact App.nil | apply App.cons)) ?_
            refine G.seq ?_
            refine G.region ?_
            refine G.yld (by decide) (Yld.move rfl) ?_
            refine G.opc (by decide) (OpC.call Try.call19 rfl (again_spec b f3 9 hA3.ok) (.cons (by repeat (first | with_reducible exact Pick.here | with_reducible apply Pick.there)) .nil)) fun _ => ?_
            refine G.ex fun bv => ?_
            refine G.star ?_
            refine G.lift ?_
            rintro rfl
            refine G.star ?_
            rw [hno.1]
            refine G.pick (A := sl true 1 bv _ _) (by repeat (first | with_reducible exact Pick.here | with_reducible apply Pick.there)) (G.slv fun ab cb hvb hlb hcb => ?_)
            subst hvb
            refine G.yld (by decide) (Yld.move rfl) ?_
            refine G.yld (by decide) (Yld.extract rfl rfl) ?_
            refine G.yld (by decide) (Yld.extract rfl rfl) ?_
            refine G.opc (by decide) (OpC.alloc (cs := [.int .u8 0, .bool false, .bool false, .bool false, .bool false, .int .u32 0, .int .u16 0, .int .u32 0, .int .u32 0, .int .u32 0, .int .u32 0, .int .u32 0, .int .u16 0, .int .u16 0, .slice none 0 0, .slice none 0 0, .slice none 0 0, .slice none 0 0, .slice none 0 0]) Try.zeroValue36 rfl) fun b8 => ?_
            refine G.op0  (OpC.storeAgg (k := 19) Try.sizeOf36 rfl rfl rfl rfl (by repeat (first | with_reducible exact Pick.here | with_reducible apply Pick.there)) (setWhole rfl) (Nat.le_of_ble_eq_true rfl)) fun _ => ?_
            refine G.yld (by decide) (Yld.assign rfl) ?_
            refine G.done ?_
            refine G.seq ?_
            refine G.region ?_
            refine G.yld (by decide) (Yld.move rfl) ?_
            refine G.done ?_
            refine G.condF rfl ?_
            refine G.skip ?_
            refine G.nil ?_
            refine G.x_block (G.x_then ?_)
            refine G.region ?_
            refine G.yld (by decide) (Yld.add_i (b := (1 : Int)) rfl rfl (by omega)) ?_
            refine G.yld (by decide) (Yld.move rfl) ?_
            refine G.done ?_
            refine G.nil ?_
            refine G.x_then ?_
            exact G.againE (r + 1, h', u, f3) (by simp only; omega) (.cons (t := 0) rfl (.cons (t := 1) rfl (.cons (t := 2) rfl (.cons (t := 7) rfl (.cons (t := 8) rfl (.cons (t := 10) rfl (.cons (t := 52) rfl (.cons (t := 53) rfl .nil)))))))) (.cons (.lift ⟨by simp only; omega, hno.2, hall⟩) (.cons (.pick (A := isF b _) (by repeat (first | with_reducible exact Pick.here | with_reducible apply Pick.there))) (.cons (.pick (A := cel true b10 _ _) (by repeat (first | with_reducible exact Pick.here | with_reducible apply Pick.there))) (.cons (.pick (A := sl false 1 (.slice a1 _ _) _ _) (by repeat (first | with_reducible exact Pick.here | with_reducible apply Pick.there))) (.cons (.pick (A := sl false 1 (.slice a2 _ _) _ _) (by repeat (first | with_reducible exact Pick.here | with_reducible apply Pick.there))) .nil)))))
    · refine G.exit ?_
      refine G.x_exit_then (G.x_exit_then ?_)
      refine G.x_exit_block (G.x_then ?_)
      refine G.unframe (by repeat (first | exact App.nil | apply App.cons)) ?_
      refine G.seq ?_
      refine G.region ?_
      refine G.yld (by decide) (Yld.move rfl) ?_
      refine G.opc (by decide) (OpC.call Try.call16 rfl (point_spec hss b f true hF.ok) (.cons (by repeat (first | with_reducible exact Pick.here | with_reducible apply Pick.there)) .nil)) fun _ => ?_
      refine G.ex fun sv => ?_
      refine G.star ?_
      refine G.lift ?_
      rintro rfl
      refine G.star ?_
      rw [hF.point]
      refine G.pick (A := sl true 3 sv _ _) (by repeat (first | with_reducible exact Pick.here | with_reducible apply Pick.there)) (G.slv fun asl caps hsv hls hcs => ?_)
      subst hsv
      refine G.yld (by decide) (Yld.move rfl) ?_
      refine G.yld (by decide) (Yld.extract rfl rfl) ?_
      refine G.yld (by decide) (Yld.extract rfl rfl) ?_
      refine G.opc (by decide) (OpC.alloc (cs := [.int .u8 0, .bool false, .bool false, .bool false, .bool false, .int .u32 0, .int .u16 0, .int .u32 0, .int .u32 0, .int .u32 0, .int .u32 0, .int .u32 0, .int .u16 0, .int .u16 0, .slice none 0 0, .slice none 0 0, .slice none 0 0, .slice none 0 0, .slice none 0 0]) Try.zeroValue36 rfl) fun b9 => ?_
      refine G.op0  (OpC.storeAgg (k := 19) Try.sizeOf36 rfl rfl rfl rfl (by repeat (first | with_reducible exact Pick.here | with_reducible apply Pick.there)) (setWhole rfl) (Nat.le_of_ble_eq_true rfl)) fun _ => ?_
      refine G.yld (by decide) (Yld.assign rfl) ?_
      refine G.done ?_
      refine G.seq ?_
      refine G.region ?_
      refine G.yld (by decide) (Yld.move rfl) ?_
      refine G.yld (by decide) (Yld.not rfl) ?_
      refine G.yld (by decide) (Yld.move rfl) ?_
      refine G.yldG (by decide) rfl rfl (Yld.move rfl) ?_
      refine G.opG (by decide) rfl rfl (OpC.call Try.call15 rfl (expire_spec hsk b f 1073741824 hF.ok (by rw [hF.expire, hF.gone]; simp)) (.cons (by repeat (first | with_reducible exact Pick.here | with_reducible apply Pick.there)) .nil)) fun vx => ?_
      refine G.star ?_
      rw [hF.expired]
      refine G.pick (A := sl true 1 vx _ _) .here (G.slv fun ax capx hvx hlx hcx => ?_)
      subst hvx
      refine G.yldG (by decide) rfl rfl (Yld.len_slice Try.runUnderlying47 rfl) ?_
      refine G.yldG (by decide) rfl rfl (Yld.eql_i (b := (0 : Int)) rfl rfl) ?_
      refine G.as (t := 196) (v := .bool true) rfl (congrArg Value.bool (decide_eq_true rfl)) ?_
      refine G.yld (by decide) (Yld.pickT rfl rfl) ?_
      refine G.yld (by decide) (Yld.assign rfl) ?_
      refine G.done ?_
      refine G.ret ?_
      refine G.ret1 (.inr rfl) Try.results5 (.tmp rfl) ?_
      exact ⟨_, (.lift rfl)⟩
end Go.Fl
