/- Contracts, printed by a program of mine and proved by Lean. -/
import Derived.Test.YtogemllbdkbjkaaFlB1
import Derived.Test.YtogemllbdkbjkaaFlTimesH
import Derived.Test.YtogemllbdkbjkaaFlA8
set_option linter.unusedVariables false
set_option linter.unusedSimpArgs false
namespace Go.Fl
open Go Go.Sl Go.Proofs
set_option maxRecDepth 10000
set_option linter.unusedVariables false
theorem times_spec (hsk : SortedKeys) (hss : SortSkips) (n : UInt32) (q o : Int) (ho64 : Rng o) : Sl.Spec Try.prog 6 [vU32 n, vI q, vI o].toArray [] (fun v => lift (v = .bool true)) := by
  refine Sl.Spec.of_body (vs := [vU32 n, vI q, vI o]) Try.func6 Try.ntmps6 (Nat.le_of_ble_eq_true rfl) rfl fun w0 F => ?_
  refine G.seq ?_
  refine G.region ?_
  refine G.yld (by decide) (Yld.assign rfl) ?_
  refine G.done ?_
  refine G.seq ?_
  refine G.seq ?_
  refine G.region ?_
  refine G.opc (by decide) (OpC.call Try.call12 rfl first_spec .nil) fun _ => ?_
  refine G.lift ?_
  rintro rfl
  refine G.yld (by decide) (Yld.not rfl) ?_
  refine G.done ?_
  refine G.condF rfl ?_
  refine G.skip ?_
  refine G.seq ?_
  refine G.region ?_
  refine G.yld (by decide) (Yld.move rfl) ?_
  refine G.yld (by decide) (Yld.rem_u32 (b := (20 : UInt32)) rfl rfl (by decide)) ?_
  refine G.yld (by decide) (Yld.assign rfl) ?_
  obtain ⟨k, hke⟩ : ∃ k, n % 20 = k := ⟨_, rfl⟩
  rw [hke]
  have hk : k.toNat < 20 := by rw [← hke, UInt32.toNat_mod]; exact Nat.mod_lt _ (by decide)
  refine G.done ?_
  refine G.seq ?_
  refine G.region ?_
  refine G.yld (by decide) (Yld.move rfl) ?_
  refine G.yld (by decide) (Yld.conv_i_u64 Try.runUnderlying3 Try.runUnderlying64 rfl) ?_
  refine G.yld (by decide) (Yld.rem_u64 (b := (5 : UInt64)) rfl rfl (by decide)) ?_
  obtain ⟨u, hu⟩ : ∃ u, UInt64.ofNat (q % 18446744073709551616).toNat % 5 = u := ⟨_, rfl⟩
  rw [hu]
  have hu5 : u.toNat < 5 := by rw [← hu, UInt64.toNat_mod]; exact Nat.mod_lt _ (by decide)
  refine G.yld (by decide) (Yld.conv_u64_i Try.runUnderlying64 Try.runUnderlying3 rfl (Nat.lt_trans hu5 (by decide))) ?_
  refine G.yld (by decide) (Yld.add_i (a := (1 : Int)) rfl rfl (by omega)) ?_
  refine G.yld (by decide) (Yld.assign rfl) ?_
  obtain ⟨p, hp⟩ : ∃ p : Nat, (1 : Int) + (u.toNat : Int) = (p : Int) := ⟨1 + u.toNat, by omega⟩
  rw [hp]
  have hp1 : 0 < p ∧ p ≤ 5 := by omega
  refine G.done ?_
  refine G.seq ?_
  refine G.region ?_
  refine G.opc (by decide) (OpC.call Try.call13 rfl (flNew_spec 100) .nil) fun _ => ?_
  refine G.ex fun b => ?_
  refine G.star ?_
  refine G.lift ?_
  rintro rfl
  refine G.conv (A := isF b _) (by repeat (first | with_reducible exact Pick.here | with_reducible apply Pick.there)) (A' := isF b (stA k 0)) (fun _ h => by rw [show (100 - 1 : UInt32) = 99 from by decide] at h; exact h) ?_
  refine G.yld (by decide) (Yld.assign rfl) ?_
  refine G.done ?_
  refine G.seq ?_
  refine G.seq ?_
  refine G.region ?_
  refine G.yld (by decide) (Yld.move rfl) ?_
  refine G.yld (by decide) (Yld.move rfl) ?_
  refine G.done ?_
  refine G.block ?_
  refine G.loopE (X := Nat) (fun i => [(2, vI o), (7, vU32 k), (8, vI p), (9, ptr b), (33, vI p), (34, vI i)]) (fun i => [lift (i ≤ p), isF b (stA k i)]) (fun i => p - i) 0 (.cons (t := 2) rfl (.cons (t := 7) rfl (.cons (t := 8) rfl (.cons (t := 9) rfl (.cons (t := 33) rfl (.cons (t := 34) rfl .nil)))))) (.cons (.lift (Nat.zero_le _)) (.cons (.pick (by repeat (first | with_reducible exact Pick.here | with_reducible apply Pick.there))) .nil)) fun i => ?_
  refine G.lift fun hi => ?_
  refine G.seq ?_
  refine G.region ?_
  refine G.yld (by decide) (Yld.lss_i rfl rfl) ?_
  refine G.done ?_
  refine G.seq ?_
  refine G.condP rfl (fun hlt => ?_) (fun hlt => ?_)
  · refine G.skip ?_
    refine G.seq ?_
    refine G.block ?_
    refine G.seq ?_
    refine G.region ?_
    refine G.yld (by decide) (Yld.move rfl) ?_
    refine G.yld (by decide) (Yld.assign rfl) ?_
    refine G.done ?_
    refine G.region ?_
    refine G.yld (by decide) (Yld.move rfl) ?_
    refine G.yld (by decide) (Yld.move rfl) ?_
    refine G.yld (by decide) (Yld.buildS (cs := [_, _]) Try_z46 Try_pl46 rfl rfl (.cons rfl rfl (Nat.le_of_ble_eq_true rfl) (.cons rfl rfl (Nat.le_of_ble_eq_true rfl) .nil)) rfl) ?_
    refine G.yld (by decide) (Yld.move rfl) ?_
    refine G.yld (by decide) (Yld.conv_i_u32 Try.runUnderlying3 Try.runUnderlying22 rfl) ?_
    rw [cast32 (by omega)]
    refine G.opc (by decide) (OpC.buildOne (cs := [_]) Try.runUnderlying23 Try.sizeOf5 Try.zeroValue5 rfl rfl rfl rfl (by decide)) fun bl => ?_
    refine G.opc (by decide) (OpC.convBytes Try.underlying23 Try.underlying5 rfl (by repeat (first | with_reducible exact Pick.here | with_reducible apply Pick.there))) fun _ => ?_
    refine G.fold (A := bys (.slice (some ⟨bl, 0, none⟩) 1 1) [120]) (.imp (.pick (A := cel false bl _ _) (by repeat (first | with_reducible exact Pick.here | with_reducible apply Pick.there))) (fun r h => sl_row (k := 1) (n := 1) rfl r (by exact h))) ?_
    refine G.yld (by decide) (Yld.buildS (cs := [_, _, _, _, _, _, _, _, _, _, _, _, _, _, _, _, _, _, _]) Try_z36 Try_pl36 rfl rfl (.cons rfl rfl (Nat.le_of_ble_eq_true rfl) (.cons rfl rfl (Nat.le_of_ble_eq_true rfl) (.cons rfl rfl (Nat.le_of_ble_eq_true rfl) (.cons rfl rfl (Nat.le_of_ble_eq_true rfl) (.cons rfl rfl (Nat.le_of_ble_eq_true rfl) .nil))))) rfl) ?_
    refine G.opc (by decide) (OpC.call Try.call14 rfl (send_spec b (stA k i) 7 1 k { kind := 64, stream := 4, mid := 9, frag := UInt32.ofNat i } (.slice (some ⟨bl, 0, none⟩) 1 1) [120] 0 (stA_ok (by omega)) (by decide)) (.cons (by repeat (first | with_reducible exact Pick.here | with_reducible apply Pick.there)) (.cons (by repeat (first | with_reducible exact Pick.here | with_reducible apply Pick.there)) .nil))) fun _ => ?_
    refine G.ex fun bvx => ?_
    refine G.star ?_
    refine G.lift ?_
    rintro rfl
    refine G.star ?_
    rw [stA_send (by omega)]
    refine G.done ?_
    refine G.nil ?_
    refine G.x_block (G.x_then ?_)
    refine G.region ?_
    refine G.yld (by decide) (Yld.add_i (b := (1 : Int)) rfl rfl (by omega)) ?_
    refine G.yld (by decide) (Yld.move rfl) ?_
    refine G.done ?_
    refine G.nil ?_
    refine G.x_then ?_
    exact G.againE (i + 1) (by omega) (.cons (t := 2) rfl (.cons (t := 7) rfl (.cons (t := 8) rfl (.cons (t := 9) rfl (.cons (t := 33) rfl (.cons (t := 34) rfl .nil)))))) (.cons (.lift (by omega)) (.cons (.pick (by repeat (first | with_reducible exact Pick.here | with_reducible apply Pick.there))) .nil))
  · have hi2 : p = i := by omega
    subst hi2
    refine G.exit ?_
    refine G.x_exit_then (G.x_exit_then ?_)
    refine G.x_exit_block (G.x_then ?_)
    refine G.unframe (by repeat (first | exact App.nil | apply App.cons)) ?_
    refine G.seq ?_
    refine G.region ?_
    refine G.yld (by decide) (Yld.move rfl) ?_
    refine G.yld (by decide) (Yld.move rfl) ?_
    refine G.yld (by decide) (Yld.buildS (cs := [_, _]) Try_z46 Try_pl46 rfl rfl .nil rfl) ?_
    refine G.opc (by decide) (OpC.buildOne (cs := [_]) Try.runUnderlying23 Try.sizeOf5 Try.zeroValue5 rfl rfl rfl rfl (by decide)) fun bl => ?_
    refine G.opc (by decide) (OpC.convBytes Try.underlying23 Try.underlying5 rfl (by repeat (first | with_reducible exact Pick.here | with_reducible apply Pick.there))) fun _ => ?_
    refine G.fold (A := bys (.slice (some ⟨bl, 0, none⟩) 1 1) [121]) (.imp (.pick (A := cel false bl _ _) (by repeat (first | with_reducible exact Pick.here | with_reducible apply Pick.there))) (fun r h => sl_row (k := 1) (n := 1) rfl r (by exact h))) ?_
    refine G.yld (by decide) (Yld.buildS (cs := [_, _, _, _, _, _, _, _, _, _, _, _, _, _, _, _, _, _, _]) Try_z36 Try_pl36 rfl rfl (.cons rfl rfl (Nat.le_of_ble_eq_true rfl) (.cons rfl rfl (Nat.le_of_ble_eq_true rfl) (.cons rfl rfl (Nat.le_of_ble_eq_true rfl) .nil))) rfl) ?_
    refine G.opc (by decide) (OpC.call Try.call14 rfl (send_spec b (stA k p) o 0 0 { kind := 64, stream := 1 } (.slice (some ⟨bl, 0, none⟩) 1 1) [121] 0 (stA_ok (by omega)) (by decide)) (.cons (by repeat (first | with_reducible exact Pick.here | with_reducible apply Pick.there)) (.cons (by repeat (first | with_reducible exact Pick.here | with_reducible apply Pick.there)) .nil))) fun _ => ?_
    refine G.ex fun bvx => ?_
    refine G.star ?_
    refine G.lift ?_
    rintro rfl
    refine G.star ?_
    rw [stS_send (by omega)]
    refine G.done ?_
    refine G.seq ?_
    refine G.seq ?_
    refine G.region ?_
    refine G.yld (by decide) (Yld.move rfl) ?_
    refine G.yld (by decide) (Yld.move rfl) ?_
    refine G.done ?_
    refine G.block ?_
    refine G.loopE (X := Nat) (fun r => [(2, vI o), (8, vI p), (9, ptr b), (54, vU32 k), (55, vU32 (UInt32.ofNat r))]) (fun r => [lift (r ≤ k.toNat), isF b (stS k p o r)]) (fun r => k.toNat - r) 0 (.cons (t := 2) rfl (.cons (t := 8) rfl (.cons (t := 9) rfl (.cons (t := 54) rfl (.cons (t := 55) rfl .nil))))) (.cons (.lift (Nat.zero_le _)) (.cons (.pick (by repeat (first | with_reducible exact Pick.here | with_reducible apply Pick.there))) .nil)) fun r => ?_
    refine G.lift fun hr0 => ?_
    refine G.seq ?_
    refine G.region ?_
    refine G.yld (by decide) (Yld.lss_u32 rfl rfl) ?_
    refine G.done ?_
    refine G.seq ?_
    refine G.condP rfl (fun hlt => ?_) (fun hlt => ?_)
    · have hr : r < k.toNat := by rw [UInt32.lt_iff_toNat_lt, UInt32.toNat_ofNat_of_lt' (by show r < 4294967296; omega)] at hlt; exact hlt
      refine G.skip ?_
      refine G.seq ?_
      refine G.block ?_
      refine G.seq ?_
      refine G.region ?_
      refine G.yld (by decide) (Yld.move rfl) ?_
      refine G.opc (by decide) (OpC.call Try.call18 rfl (late_spec b (stS k p o r) (by have := (stS_ok (k := k) (p := p) (o := o) (r := r) ho64 (by omega)).len; exact this)) (.cons (by repeat (first | with_reducible exact Pick.here | with_reducible apply Pick.there)) .nil)) fun _ => ?_
      refine G.star ?_
      refine G.lift ?_
      rintro rfl
      rw [stS_late]
      refine G.done ?_
      refine G.seq ?_
      refine G.seq ?_
      refine G.region ?_
      refine G.yld (by decide) (Yld.move rfl) ?_
      refine G.yld (by decide) (Yld.move rfl) ?_
      refine G.done ?_
      refine G.block ?_
      refine G.loopE (X := Nat) (fun i => [(2, vI o), (8, vI p), (9, ptr b), (54, vU32 k), (55, vU32 (UInt32.ofNat r)), (59, vI p), (60, vI i)]) (fun i => [lift (i ≤ p), isF b (stR k p o r i)]) (fun i => p - i) 0 (.cons (t := 2) rfl (.cons (t := 8) rfl (.cons (t := 9) rfl (.cons (t := 54) rfl (.cons (t := 55) rfl (.cons (t := 59) rfl (.cons (t := 60) rfl .nil))))))) (.cons (.lift (Nat.zero_le _)) (.cons (.pick (by repeat (first | with_reducible exact Pick.here | with_reducible apply Pick.there))) .nil)) fun i => ?_
      refine G.lift fun hi => ?_
      refine G.seq ?_
      refine G.region ?_
      refine G.yld (by decide) (Yld.lss_i rfl rfl) ?_
      refine G.done ?_
      refine G.seq ?_
      refine G.condP rfl (fun hlt2 => ?_) (fun hlt2 => ?_)
      · refine G.skip ?_
        refine G.seq ?_
        refine G.block ?_
        refine G.seq ?_
        refine G.region ?_
        refine G.yld (by decide) (Yld.move rfl) ?_
        refine G.yld (by decide) (Yld.assign rfl) ?_
        refine G.done ?_
        refine G.seq ?_
        refine G.region ?_
        refine G.yld (by decide) (Yld.move rfl) ?_
        refine G.opc (by decide) (OpC.call Try.call19 rfl (again_spec b (stR k p o r i) 1 (stR_ok ho64 (by omega) (by omega))) (.cons (by repeat (first | with_reducible exact Pick.here | with_reducible apply Pick.there)) .nil)) fun _ => ?_
        refine G.ex fun bv1 => ?_
        refine G.star ?_
        refine G.lift ?_
        rintro rfl
        refine G.star ?_
        rw [stR_again (by omega) hr hk]
        refine G.fact (A := sl true _ bv1 _ _) (by repeat (first | with_reducible exact Pick.here | with_reducible apply Pick.there)) sl_cell fun hbv1 => ?_
        refine G.yld (by decide) (Yld.move rfl) ?_
        refine G.yld (by decide) (Yld.extract rfl rfl) ?_
        refine G.yld (by decide) (Yld.extract rfl rfl) ?_
        refine G.opc (by decide) (OpC.alloc (cs := [.int .u8 0, .bool false, .bool false, .bool false, .bool false, .int .u32 0, .int .u16 0, .int .u32 0, .int .u32 0, .int .u32 0, .int .u32 0, .int .u32 0, .int .u16 0, .int .u16 0, .slice none 0 0, .slice none 0 0, .slice none 0 0, .slice none 0 0, .slice none 0 0]) Try.zeroValue36 rfl) fun b3 => ?_
        refine G.op0  (OpC.storeAgg (k := 19) Try.sizeOf36 rfl rfl rfl (by simp only [List.all_cons, List.all_nil, hbv1]; rfl) (by repeat (first | with_reducible exact Pick.here | with_reducible apply Pick.there)) (setWhole rfl) (Nat.le_of_ble_eq_true rfl)) fun _ => ?_
        refine G.yld (by decide) (Yld.assign rfl) ?_
        refine G.done ?_
        refine G.seq ?_
        refine G.region ?_
        refine G.yld (by decide) (Yld.move rfl) ?_
        refine G.yld (by decide) (Yld.not rfl) ?_
        refine G.yld (by decide) (Yld.move rfl) ?_
        refine G.yldG (by decide) rfl rfl (Yld.fieldAddr Try_fo36_5 rfl) ?_
        refine G.yldG (by decide) rfl rfl (Yld.load rfl Try.isAgg22 (by repeat (first | with_reducible exact Pick.here | with_reducible apply Pick.there)) rfl) ?_
        refine G.yldG (by decide) rfl rfl (Yld.move rfl) ?_
        refine G.yldG (by decide) rfl rfl (Yld.conv_i_u32 Try.runUnderlying3 Try.runUnderlying22 rfl) ?_
        refine G.yldG (by decide) rfl rfl (Yld.add_u32 (a := (100 : UInt32)) rfl rfl) ?_
        refine G.yldG (by decide) rfl rfl (Yld.neq_u32 rfl rfl) ?_
        refine G.as (t := 76) (v := .bool false) rfl (congrArg Value.bool (decide_eq_false (not_not_intro (show (100 : UInt32) + UInt32.ofNat i = 100 + UInt32.ofNat (((i : Nat) : Int) % 4294967296).toNat by rw [cast32 (by omega)])))) ?_
        refine G.yld (by decide) (Yld.pickF rfl rfl) ?_
        refine G.done ?_
        refine G.condF rfl ?_
        refine G.skip ?_
        refine G.nil ?_
        refine G.x_block (G.x_then ?_)
        refine G.region ?_
        refine G.yld (by decide) (Yld.add_i (b := (1 : Int)) rfl rfl (by omega)) ?_
        refine G.yld (by decide) (Yld.move rfl) ?_
        refine G.done ?_
        refine G.nil ?_
        refine G.x_then ?_
        exact G.againE (i + 1) (by omega) (.cons (t := 2) rfl (.cons (t := 8) rfl (.cons (t := 9) rfl (.cons (t := 54) rfl (.cons (t := 55) rfl (.cons (t := 59) rfl (.cons (t := 60) rfl .nil))))))) (.cons (.lift (by omega)) (.cons (.pick (by repeat (first | with_reducible exact Pick.here | with_reducible apply Pick.there))) .nil))
      · have hi2 : p = i := by omega
        subst hi2
        refine G.exit ?_
        refine G.x_exit_then (G.x_exit_then ?_)
        refine G.x_exit_block (G.x_then ?_)
        refine G.unframe (by repeat (first | exact App.nil | apply App.cons)) ?_
        refine G.seq ?_
        refine G.seq ?_
        refine G.region ?_
        refine G.yld (by decide) (Yld.move rfl) ?_
        refine G.opc (by decide) (OpC.call Try.call19 rfl (again_spec b (stR k p o r p) 1 (stR_ok ho64 (by omega) (by omega))) (.cons (by repeat (first | with_reducible exact Pick.here | with_reducible apply Pick.there)) .nil)) fun _ => ?_
        refine G.ex fun bv2 => ?_
        refine G.star ?_
        refine G.lift ?_
        rintro rfl
        refine G.star ?_
        rw [stR_other]
        refine G.fact (A := sl true _ bv2 _ _) (by repeat (first | with_reducible exact Pick.here | with_reducible apply Pick.there)) sl_cell fun hbv2 => ?_
        refine G.yld (by decide) (Yld.move rfl) ?_
        refine G.yld (by decide) (Yld.extract rfl rfl) ?_
        refine G.yld (by decide) (Yld.extract rfl rfl) ?_
        refine G.opc (by decide) (OpC.alloc (cs := [.int .u8 0, .bool false, .bool false, .bool false, .bool false, .int .u32 0, .int .u16 0, .int .u32 0, .int .u32 0, .int .u32 0, .int .u32 0, .int .u32 0, .int .u16 0, .int .u16 0, .slice none 0 0, .slice none 0 0, .slice none 0 0, .slice none 0 0, .slice none 0 0]) Try.zeroValue36 rfl) fun b4 => ?_
        refine G.op0  (OpC.storeAgg (k := 19) Try.sizeOf36 rfl rfl rfl (by simp only [List.all_cons, List.all_nil, hbv2]; rfl) (by repeat (first | with_reducible exact Pick.here | with_reducible apply Pick.there)) (setWhole rfl) (Nat.le_of_ble_eq_true rfl)) fun _ => ?_
        refine G.yld (by decide) (Yld.assign rfl) ?_
        refine G.done ?_
        refine G.seq ?_
        refine G.region ?_
        refine G.yld (by decide) (Yld.move rfl) ?_
        refine G.yld (by decide) (Yld.not rfl) ?_
        refine G.yld (by decide) (Yld.move rfl) ?_
        refine G.yldG (by decide) rfl rfl (Yld.fieldAddr Try_fo36_6 rfl) ?_
        refine G.yldG (by decide) rfl rfl (Yld.load rfl Try.isAgg30 (by repeat (first | with_reducible exact Pick.here | with_reducible apply Pick.there)) rfl) ?_
        refine G.yldG (by decide) rfl rfl (Yld.neq_u16 (b := (1 : UInt16)) rfl rfl) ?_
        refine G.as (t := 89) (v := .bool false) rfl (congrArg Value.bool (decide_eq_false (fun h => h rfl))) ?_
        refine G.yld (by decide) (Yld.pickF rfl rfl) ?_
        refine G.done ?_
        refine G.condF rfl ?_
        refine G.skip ?_
        refine G.seq ?_
        refine G.region ?_
        refine G.yld (by decide) (Yld.move rfl) ?_
        refine G.opc (by decide) (OpC.call Try.call16 rfl (point_spec hss b (stS k p o (r + 1)) true (stS_ok ho64 (by omega))) (.cons (by repeat (first | with_reducible exact Pick.here | with_reducible apply Pick.there)) .nil)) fun _ => ?_
        refine G.ex fun sv => ?_
        refine G.star ?_
        refine G.lift ?_
        rintro rfl
        refine G.star ?_
        rw [stS_point]
        refine G.fact (A := sl true _ sv _ _) (by repeat (first | with_reducible exact Pick.here | with_reducible apply Pick.there)) sl_cell fun hsv => ?_
        refine G.yld (by decide) (Yld.move rfl) ?_
        refine G.yld (by decide) (Yld.extract rfl rfl) ?_
        refine G.yld (by decide) (Yld.extract rfl rfl) ?_
        refine G.opc (by decide) (OpC.alloc (cs := [.int .u8 0, .bool false, .bool false, .bool false, .bool false, .int .u32 0, .int .u16 0, .int .u32 0, .int .u32 0, .int .u32 0, .int .u32 0, .int .u32 0, .int .u16 0, .int .u16 0, .slice none 0 0, .slice none 0 0, .slice none 0 0, .slice none 0 0, .slice none 0 0]) Try.zeroValue36 rfl) fun b5 => ?_
        refine G.op0  (OpC.storeAgg (k := 19) Try.sizeOf36 rfl rfl rfl (by simp only [List.all_cons, List.all_nil, hsv]; rfl) (by repeat (first | with_reducible exact Pick.here | with_reducible apply Pick.there)) (setWhole rfl) (Nat.le_of_ble_eq_true rfl)) fun _ => ?_
        refine G.yld (by decide) (Yld.assign rfl) ?_
        refine G.done ?_
        refine G.seq ?_
        refine G.region ?_
        refine G.yld (by decide) (Yld.move rfl) ?_
        refine G.yld (by decide) (Yld.move rfl) ?_
        refine G.yldG (by decide) rfl rfl (Yld.move rfl) ?_
        refine G.opG (by decide) rfl rfl (OpC.call Try.call15 rfl (expire_spec hsk b (stS k p o (r + 1)) 1 (stS_ok ho64 (by omega)) stS_gone) (.cons (by repeat (first | with_reducible exact Pick.here | with_reducible apply Pick.there)) .nil)) fun vx => ?_
        refine G.star ?_
        rw [stS_expire]
        refine G.pick (A := sl true 1 vx _ _) .here (G.slv fun ax capx hvx hlx hcx => ?_)
        subst hvx
        refine G.yldG (by decide) rfl rfl (Yld.len_slice Try.runUnderlying47 rfl) ?_
        refine G.yldG (by decide) rfl rfl (Yld.neq_i (b := (0 : Int)) rfl rfl) ?_
        refine G.as (t := 101) (v := .bool false) rfl (congrArg Value.bool (decide_eq_false (fun h => h rfl))) ?_
        refine G.yld (by decide) (Yld.pickF rfl rfl) ?_
        refine G.done ?_
        refine G.condF rfl ?_
        refine G.skip ?_
        refine G.nil ?_
        refine G.x_block (G.x_then ?_)
        refine G.region ?_
        refine G.yld (by decide) (Yld.add_u32 (b := (1 : UInt32)) rfl rfl) ?_
        refine G.yld (by decide) (Yld.move rfl) ?_
        refine G.done ?_
        refine G.nil ?_
        refine G.x_then ?_
        exact G.againE (r + 1) (by omega) (.cons (t := 2) rfl (.cons (t := 8) rfl (.cons (t := 9) rfl (.cons (t := 54) rfl (.as (t := 55) rfl (congrArg vU32 (by simp)) .nil))))) (.cons (.lift (by omega)) (.cons (.pick (by repeat (first | with_reducible exact Pick.here | with_reducible apply Pick.there))) .nil))
    · have hr : r = k.toNat := by rw [UInt32.lt_iff_toNat_lt, UInt32.toNat_ofNat_of_lt' (by show r < 4294967296; omega)] at hlt; omega
      subst hr
      by_cases ho : o = 7
      · refine G.exit ?_
        refine G.x_exit_then (G.x_exit_then ?_)
        refine G.x_exit_block (G.x_then ?_)
        refine G.unframe (by repeat (first | exact App.nil | apply App.cons)) ?_
        refine G.seq ?_
        refine G.region ?_
        refine G.yld (by decide) (Yld.move rfl) ?_
        refine G.opc (by decide) (OpC.call Try.call18 rfl (late_spec b (stS k p o k.toNat) (by have := (stS_ok (k := k) (p := p) (o := o) (r := k.toNat) ho64 (by omega)).len; exact this)) (.cons (by repeat (first | with_reducible exact Pick.here | with_reducible apply Pick.there)) .nil)) fun _ => ?_
        refine G.star ?_
        refine G.lift ?_
        rintro rfl
        rw [stS_late]
        refine G.done ?_
        refine G.seq ?_
        refine G.region ?_
        refine G.yld (by decide) (Yld.move rfl) ?_
        refine G.opc (by decide) (OpC.call Try.call19 rfl (again_spec b (stR k p o k.toNat 0) 1 (stR_ok ho64 (by omega) (by omega))) (.cons (by repeat (first | with_reducible exact Pick.here | with_reducible apply Pick.there)) .nil)) fun _ => ?_
        refine G.ex fun bv3 => ?_
        refine G.star ?_
        refine G.lift ?_
        rintro rfl
        refine G.star ?_
        rw [stR_last hp1.1 hk, if_pos ho]
        refine G.fact (A := sl true _ bv3 _ _) (by repeat (first | with_reducible exact Pick.here | with_reducible apply Pick.there)) sl_cell fun hbv3 => ?_
        refine G.yld (by decide) (Yld.move rfl) ?_
        refine G.yld (by decide) (Yld.extract rfl rfl) ?_
        refine G.yld (by decide) (Yld.extract rfl rfl) ?_
        refine G.opc (by decide) (OpC.alloc (cs := [.int .u8 0, .bool false, .bool false, .bool false, .bool false, .int .u32 0, .int .u16 0, .int .u32 0, .int .u32 0, .int .u32 0, .int .u32 0, .int .u32 0, .int .u16 0, .int .u16 0, .slice none 0 0, .slice none 0 0, .slice none 0 0, .slice none 0 0, .slice none 0 0]) Try.zeroValue36 rfl) fun b6 => ?_
        refine G.op0  (OpC.storeAgg (k := 19) Try.sizeOf36 rfl rfl rfl (by simp only [List.all_cons, List.all_nil, hbv3]; rfl) (by repeat (first | with_reducible exact Pick.here | with_reducible apply Pick.there)) (setWhole rfl) (Nat.le_of_ble_eq_true rfl)) fun _ => ?_
        refine G.yld (by decide) (Yld.assign rfl) ?_
        refine G.done ?_
        refine G.seq ?_
        refine G.seq ?_
        refine G.region ?_
        refine G.yld (by decide) (Yld.move rfl) ?_
        refine G.yld (by decide) (Yld.eql_i (b := (7 : Int)) rfl rfl) ?_
        refine G.as (t := 112) (v := .bool true) rfl (congrArg Value.bool (decide_eq_true ho)) ?_
        refine G.done ?_
        refine G.condT rfl ?_
        refine G.seq ?_
        refine G.region ?_
        refine G.yld (by decide) (Yld.move rfl) ?_
        refine G.yld (by decide) (Yld.not rfl) ?_
        refine G.yld (by decide) (Yld.move rfl) ?_
        refine G.yldG (by decide) rfl rfl (Yld.move rfl) ?_
        refine G.opG (by decide) rfl rfl (OpC.call Try.call20 rfl (flLeft_spec b (stE k p o (otT p o (sentR k.toNat) (atR k.toNat) 3)) (by have := (stE_ok (k := k) (p := p) (o := o) (s := sentR k.toNat) (a := atR k.toNat) (h := 3) ho64 (by omega)).len; exact this)) (.cons (by repeat (first | with_reducible exact Pick.here | with_reducible apply Pick.there)) .nil)) fun _ => ?_
        refine G.star ?_
        refine G.lift ?_
        rintro rfl
        rw [stE_left1 ho]
        refine G.yldG (by decide) rfl rfl (Yld.eql_i (b := (0 : Int)) rfl rfl) ?_
        refine G.as (t := 118) (v := .bool true) rfl (congrArg Value.bool (decide_eq_true rfl)) ?_
        refine G.yld (by decide) (Yld.pickT rfl rfl) ?_
        refine G.yld (by decide) (Yld.assign rfl) ?_
        refine G.done ?_
        refine G.ret ?_
        refine G.ret1 (.inr rfl) Try.results6 (.tmp rfl) ?_
        exact ⟨_, (.lift rfl)⟩
      · refine G.exit ?_
        refine G.x_exit_then (G.x_exit_then ?_)
        refine G.x_exit_block (G.x_then ?_)
        refine G.unframe (by repeat (first | exact App.nil | apply App.cons)) ?_
        refine G.seq ?_
        refine G.region ?_
        refine G.yld (by decide) (Yld.move rfl) ?_
        refine G.opc (by decide) (OpC.call Try.call18 rfl (late_spec b (stS k p o k.toNat) (by have := (stS_ok (k := k) (p := p) (o := o) (r := k.toNat) ho64 (by omega)).len; exact this)) (.cons (by repeat (first | with_reducible exact Pick.here | with_reducible apply Pick.there)) .nil)) fun _ => ?_
        refine G.star ?_
        refine G.lift ?_
        rintro rfl
        rw [stS_late]
        refine G.done ?_
        refine G.seq ?_
        refine G.region ?_
        refine G.yld (by decide) (Yld.move rfl) ?_
        refine G.opc (by decide) (OpC.call Try.call19 rfl (again_spec b (stR k p o k.toNat 0) 1 (stR_ok ho64 (by omega) (by omega))) (.cons (by repeat (first | with_reducible exact Pick.here | with_reducible apply Pick.there)) .nil)) fun _ => ?_
        refine G.ex fun bv3 => ?_
        refine G.star ?_
        refine G.lift ?_
        rintro rfl
        refine G.star ?_
        rw [stR_last hp1.1 hk, if_neg ho]
        refine G.fact (A := sl true _ bv3 _ _) (by repeat (first | with_reducible exact Pick.here | with_reducible apply Pick.there)) sl_cell fun hbv3 => ?_
        refine G.yld (by decide) (Yld.move rfl) ?_
        refine G.yld (by decide) (Yld.extract rfl rfl) ?_
        refine G.yld (by decide) (Yld.extract rfl rfl) ?_
        refine G.opc (by decide) (OpC.alloc (cs := [.int .u8 0, .bool false, .bool false, .bool false, .bool false, .int .u32 0, .int .u16 0, .int .u32 0, .int .u32 0, .int .u32 0, .int .u32 0, .int .u32 0, .int .u16 0, .int .u16 0, .slice none 0 0, .slice none 0 0, .slice none 0 0, .slice none 0 0, .slice none 0 0]) Try.zeroValue36 rfl) fun b7 => ?_
        refine G.op0  (OpC.storeAgg (k := 19) Try.sizeOf36 rfl rfl rfl (by simp only [List.all_cons, List.all_nil, hbv3]; rfl) (by repeat (first | with_reducible exact Pick.here | with_reducible apply Pick.there)) (setWhole rfl) (Nat.le_of_ble_eq_true rfl)) fun _ => ?_
        refine G.yld (by decide) (Yld.assign rfl) ?_
        refine G.done ?_
        refine G.seq ?_
        refine G.seq ?_
        refine G.region ?_
        refine G.yld (by decide) (Yld.move rfl) ?_
        refine G.yld (by decide) (Yld.eql_i (b := (7 : Int)) rfl rfl) ?_
        refine G.as (t := 112) (v := .bool false) rfl (congrArg Value.bool (decide_eq_false ho)) ?_
        refine G.done ?_
        refine G.condF rfl ?_
        refine G.skip ?_
        refine G.seq ?_
        refine G.region ?_
        refine G.yld (by decide) (Yld.move rfl) ?_
        refine G.opc (by decide) (OpC.call Try.call16 rfl (point_spec hss b (stE k p o (otT p o (sentR (k.toNat + 1)) 1 0)) true (stE_ok ho64 (by omega))) (.cons (by repeat (first | with_reducible exact Pick.here | with_reducible apply Pick.there)) .nil)) fun _ => ?_
        refine G.ex fun sv => ?_
        refine G.star ?_
        refine G.lift ?_
        rintro rfl
        refine G.star ?_
        rw [stE_point hp1.1]
        refine G.fact (A := sl true _ sv _ _) (by repeat (first | with_reducible exact Pick.here | with_reducible apply Pick.there)) sl_cell fun hsv => ?_
        refine G.pick (A := sl true 3 sv _ _) (by repeat (first | with_reducible exact Pick.here | with_reducible apply Pick.there)) (G.slice (fun a0 hv hn hc => by cases hn) (fun sb sT soff scap spre spost hsv2 hspre hscs hspost hsle => ?_))
        cases hsv2
        refine G.yld (by decide) (Yld.move rfl) ?_
        refine G.yld (by decide) (Yld.extract rfl rfl) ?_
        refine G.yld (by decide) (Yld.extract rfl rfl) ?_
        refine G.opc (by decide) (OpC.alloc (cs := [.int .u8 0, .bool false, .bool false, .bool false, .bool false, .int .u32 0, .int .u16 0, .int .u32 0, .int .u32 0, .int .u32 0, .int .u32 0, .int .u32 0, .int .u16 0, .int .u16 0, .slice none 0 0, .slice none 0 0, .slice none 0 0, .slice none 0 0, .slice none 0 0]) Try.zeroValue36 rfl) fun b8 => ?_
        refine G.op0  (OpC.storeAgg (k := 19) Try.sizeOf36 rfl rfl rfl (by simp only [List.all_cons, List.all_nil, hsv]; rfl) (by repeat (first | with_reducible exact Pick.here | with_reducible apply Pick.there)) (setWhole rfl) (Nat.le_of_ble_eq_true rfl)) fun _ => ?_
        refine G.yld (by decide) (Yld.assign rfl) ?_
        refine G.done ?_
        refine G.seq ?_
        refine G.region ?_
        refine G.yld (by decide) (Yld.move rfl) ?_
        refine G.opc (by decide) (OpC.call Try.call15 rfl (expire_spec hsk b (stE k p o (otT p o (sentR (k.toNat + 1)) 1 0)) 1 (stE_ok ho64 (by omega)) stE_gone) (.cons (by repeat (first | with_reducible exact Pick.here | with_reducible apply Pick.there)) .nil)) fun vx => ?_
        refine G.star ?_
        rw [stE_expire]
        refine G.pick (A := sl true 1 vx _ _) .here (G.slice (fun a0 hv hn hc => by cases hn) (fun xb xT xoff xcap xpre xpost hvx hxpre hxcs hxpost hxle => ?_))
        subst hvx
        refine G.yld (by decide) (Yld.assign rfl) ?_
        refine G.done ?_
        refine G.seq ?_
        refine G.region ?_
        refine G.yld (by decide) (Yld.move rfl) ?_
        refine G.yld (by decide) (Yld.move rfl) ?_
        refine G.yldG (by decide) rfl rfl (Yld.fieldAddr Try_fo36_6 rfl) ?_
        refine G.yldG (by decide) rfl rfl (Yld.load rfl Try.isAgg30 (by repeat (first | with_reducible exact Pick.here | with_reducible apply Pick.there)) rfl) ?_
        refine G.yldG (by decide) rfl rfl (Yld.eql_u16 (b := (1 : UInt16)) rfl rfl) ?_
        refine G.as (t := 131) (v := .bool true) rfl (congrArg Value.bool (decide_eq_true rfl)) ?_
        refine G.yld (by decide) (Yld.pickT rfl rfl) ?_
        refine G.yld (by decide) (Yld.move rfl) ?_
        refine G.yldG (by decide) rfl rfl (Yld.move rfl) ?_
        refine G.yld (by decide) (Yld.pickT rfl rfl) ?_
        refine G.yld (by decide) (Yld.move rfl) ?_
        refine G.yldG (by decide) rfl rfl (Yld.fieldAddr Try_fo36_5 rfl) ?_
        refine G.yldG (by decide) rfl rfl (Yld.load rfl Try.isAgg22 (by repeat (first | with_reducible exact Pick.here | with_reducible apply Pick.there)) rfl) ?_
        refine G.yldG (by decide) rfl rfl (Yld.move rfl) ?_
        refine G.yldG (by decide) rfl rfl (Yld.conv_i_u32 Try.runUnderlying3 Try.runUnderlying22 rfl) ?_
        refine G.yldG (by decide) rfl rfl (Yld.add_u32 (a := (99 : UInt32)) rfl rfl) ?_
        refine G.yldG (by decide) rfl rfl (Yld.eql_u32 rfl rfl) ?_
        refine G.as (t := 142) (v := .bool true) rfl (congrArg Value.bool (decide_eq_true rfl)) ?_
        refine G.yld (by decide) (Yld.pickT rfl rfl) ?_
        refine G.yld (by decide) (Yld.move rfl) ?_
        refine G.yldG (by decide) rfl rfl (Yld.fieldAddr Try_fo36_16 rfl) ?_
        refine G.yldG (by decide) rfl rfl (Yld.load rfl Try.isAgg33 (by repeat (first | with_reducible exact Pick.here | with_reducible apply Pick.there)) rfl) ?_
        refine G.yldG (by decide) rfl rfl (Yld.len_slice Try.runUnderlying33 rfl) ?_
        refine G.yldG (by decide) rfl rfl (Yld.eql_i (b := (1 : Int)) rfl rfl) ?_
        refine G.as (t := 148) (v := .bool true) rfl (congrArg Value.bool (decide_eq_true rfl)) ?_
        refine G.yld (by decide) (Yld.pickT rfl rfl) ?_
        refine G.yld (by decide) (Yld.move rfl) ?_
        refine G.yldG (by decide) rfl rfl (Yld.fieldAddr Try_fo36_16 rfl) ?_
        refine G.yldG (by decide) rfl rfl (Yld.load rfl Try.isAgg33 (by repeat (first | with_reducible exact Pick.here | with_reducible apply Pick.there)) rfl) ?_
        refine G.yldG (by decide) rfl rfl (Yld.indexAddr Try.runUnderlying33 Try.sizeOf52 rfl rfl (by omega) (by exact Int.zero_lt_one)) ?_
        refine G.yldG (by decide) rfl rfl (Yld.loadAgg (cs := (skv ⟨4, false, 9⟩)) rfl Try.isAgg52 Try.sizeOf52 (by repeat (first | with_reducible exact Pick.here | with_reducible apply Pick.there)) rfl (by exact aggAt (head_agg (cs := skv ⟨4, false, 9⟩) hspre))) ?_
        refine G.yldG (by decide) rfl rfl (Yld.buildS (cs := [_, _, _]) Try_z52 Try_pl52 rfl rfl (.cons rfl rfl (Nat.le_of_ble_eq_true rfl) (.cons rfl rfl (Nat.le_of_ble_eq_true rfl) .nil)) rfl) ?_
        refine G.yldG (by decide) rfl rfl (Yld.eqlAgg (r := true) guard52 rfl rfl (fun w => eq52n 9998 ⟨4, false, 9⟩ ⟨4, false, 9⟩ w)) ?_
        refine G.yld (by decide) (Yld.pickT rfl rfl) ?_
        refine G.yld (by decide) (Yld.move rfl) ?_
        refine G.yldG (by decide) rfl rfl (Yld.move rfl) ?_
        refine G.yldG (by decide) rfl rfl (Yld.len_slice Try.runUnderlying47 rfl) ?_
        refine G.yldG (by decide) rfl rfl (Yld.eql_i (b := (1 : Int)) rfl rfl) ?_
        refine G.as (t := 161) (v := .bool true) rfl (congrArg Value.bool (decide_eq_true rfl)) ?_
        refine G.yld (by decide) (Yld.pickT rfl rfl) ?_
        refine G.yld (by decide) (Yld.move rfl) ?_
        refine G.yldG (by decide) rfl rfl (Yld.move rfl) ?_
        refine G.yldG (by decide) rfl rfl (Yld.indexAddr Try.runUnderlying47 Try.sizeOf3 rfl rfl (by omega) (by exact Int.zero_lt_one)) ?_
        refine G.yldG (by decide) rfl rfl (Yld.load rfl Try.isAgg3 (by repeat (first | with_reducible exact Pick.here | with_reducible apply Pick.there)) (by exact head_one (v := vI 7) (cs := []) hxpre)) ?_
        refine G.yldG (by decide) rfl rfl (Yld.eql_i (b := (7 : Int)) rfl rfl) ?_
        refine G.as (t := 167) (v := .bool true) rfl (congrArg Value.bool (decide_eq_true rfl)) ?_
        refine G.yld (by decide) (Yld.pickT rfl rfl) ?_
        refine G.yld (by decide) (Yld.move rfl) ?_
        refine G.yldG (by decide) rfl rfl (Yld.move rfl) ?_
        refine G.opG (by decide) rfl rfl (OpC.call Try.call20 rfl (flLeft_spec b { stE k p o (otT p o (sentR (k.toNat + 1)) 1 0) with gone := [] } (by have := (stE_ok (k := k) (p := p) (o := o) (s := sentR (k.toNat + 1)) (a := 1) (h := 0) ho64 (by omega)).len; exact this)) (.cons (by repeat (first | with_reducible exact Pick.here | with_reducible apply Pick.there)) .nil)) fun _ => ?_
        refine G.star ?_
        refine G.lift ?_
        rintro rfl
        rw [show Fm.left { stE k p o (otT p o (sentR (k.toNat + 1)) 1 0) with gone := [] } = 1 from stE_left2]
        refine G.yldG (by decide) rfl rfl (Yld.eql_i (b := (1 : Int)) rfl rfl) ?_
        refine G.as (t := 172) (v := .bool true) rfl (congrArg Value.bool (decide_eq_true rfl)) ?_
        refine G.yld (by decide) (Yld.pickT rfl rfl) ?_
        refine G.yld (by decide) (Yld.assign rfl) ?_
        refine G.done ?_
        refine G.ret ?_
        refine G.ret1 (.inr rfl) Try.results6 (.tmp rfl) ?_
        exact ⟨_, (.lift rfl)⟩
end Go.Fl
