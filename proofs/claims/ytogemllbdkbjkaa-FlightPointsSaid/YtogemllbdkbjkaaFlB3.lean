/- Contracts, printed by a program of mine and proved by Lean. -/
import Derived.Test.YtogemllbdkbjkaaFlB1
import Derived.Test.YtogemllbdkbjkaaFlPointsF
import Derived.Test.YtogemllbdkbjkaaFlA8
import Derived.Test.YtogemllbdkbjkaaSlElem
set_option linter.unusedVariables false
set_option linter.unusedSimpArgs false
namespace Go.Fl
open Go Go.Sl Go.Proofs
set_option maxRecDepth 10000
set_option linter.unusedVariables false
theorem points_spec (hsk : SortedKeys) (hss : SortSkips) (a : Option Addr) (cap : Nat) (ks : List UInt8) : Sl.Spec Try.prog 4 [.slice a ks.length cap].toArray [sl false 1 (.slice a ks.length cap) ks.length (ks.map vU8)] (fun v => lift (v = .bool true)) := by
  refine Sl.Spec.of_body (vs := [.slice a ks.length cap]) Try.func4 Try.ntmps4 (Nat.le_of_ble_eq_true rfl) rfl fun w0 F => ?_
  refine G.seq ?_
  refine G.region ?_
  refine G.yld (by decide) (Yld.assign rfl) ?_
  refine G.done ?_
  refine G.seq ?_
  refine G.seq ?_
  refine G.region ?_
  refine G.opc (by decide) (OpC.call Try.call12 rfl first_spec .nil) fun _ => ?_
  refine G.lift ?_
  rintro rfl
  refine G.yld (by decide) (Yld.not rfl) ?_
  refine G.done ?_
  refine G.condF rfl ?_
  refine G.skip ?_
  refine G.seq ?_
  refine G.region ?_
  refine G.opc (by decide) (OpC.call Try.call13 rfl (flNew_spec 100) .nil) fun _ => ?_
  refine G.ex fun b => ?_
  refine G.star ?_
  refine G.lift ?_
  rintro rfl
  refine G.conv (A := isF b _) (by repeat (first | with_reducible exact Pick.here | with_reducible apply Pick.there)) (A' := isF b (stU ks 0)) (fun _ h => by rw [show (100 - 1 : UInt32) = 99 from by decide] at h; exact h) ?_
  refine G.yld (by decide) (Yld.assign rfl) ?_
  refine G.done ?_
  refine G.seq ?_
  refine G.region ?_
  refine G.yld (by decide) (Yld.move rfl) ?_
  refine G.yld (by decide) (Yld.len_slice Try.runUnderlying23 rfl) ?_
  refine G.yld (by decide) (Yld.min_i (b := (40 : Int)) rfl rfl) ?_
  obtain ⟨n, hn⟩ : ∃ n : Nat, (if (40 : Int) < (ks.length : Int) then (40 : Int) else (ks.length : Int)) = (n : Int) := ⟨min ks.length 40, by split <;> omega⟩
  have hn1 : n ≤ 40 ∧ n ≤ ks.length := by split at hn <;> omega
  rw [hn]
  refine G.yld (by decide) (Yld.assign rfl) ?_
  refine G.done ?_
  refine G.seq ?_
  refine G.region ?_
  refine G.yld (by decide) (Yld.move rfl) ?_
  refine G.yld (by decide) (Yld.assign rfl) ?_
  refine G.yld (by decide) (Yld.assign rfl) ?_
  refine G.done ?_
  refine G.seq ?_
  refine G.region ?_
  refine G.opc (by decide) (OpC.alloc (cs := [.int .i64 0, .int .i64 0, .int .i64 0, .int .i64 0, .int .i64 0, .int .i64 0, .int .i64 0, .int .i64 0]) Try.zeroValue42 rfl) fun b7 => ?_
  refine G.done ?_
  refine G.seq ?_
  refine G.seq ?_
  refine G.region ?_
  refine G.yld (by decide) (Yld.move rfl) ?_
  refine G.yld (by decide) (Yld.move rfl) ?_
  refine G.done ?_
  refine G.block ?_
  refine G.loopE (X := Nat) (fun i => [(3, ptr b), (0, .slice a ks.length cap), (4, vI n), (5, vI (if ahead ks i = i then (n : Int) else (ahead ks i : Int))), (6, .bool (decide (ahead ks i ≠ 0))), (7, ptr b7), (25, vI n), (26, vI i)]) (fun i => [lift (i ≤ n), isF b (stU ks i), cel true b7 42 ((latU ks (ahead ks i)).map vI), sl false 1 (.slice a ks.length cap) ks.length (ks.map vU8)]) (fun i => n - i) 0 (.cons (t := 3) rfl (.cons (t := 0) rfl (.cons (t := 4) rfl (.as (t := 5) rfl (by simp [ahead]) (.as (t := 6) rfl (by simp [ahead]) (.cons (t := 7) rfl (.cons (t := 25) rfl (.cons (t := 26) rfl .nil)))))))) (.cons (.lift (Nat.zero_le _)) (.cons (.pick (by repeat (first | with_reducible exact Pick.here | with_reducible apply Pick.there))) (.cons (.imp (.pick (A := cel true b7 _ _) (by repeat (first | with_reducible exact Pick.here | with_reducible apply Pick.there))) (fun r h => by exact h)) (.cons (.pick (by repeat (first | with_reducible exact Pick.here | with_reducible apply Pick.there))) .nil)))) fun i => ?_
  refine G.lift fun hi => ?_
  refine G.seq ?_
  refine G.region ?_
  refine G.yld (by decide) (Yld.lss_i rfl rfl) ?_
  refine G.done ?_
  refine G.seq ?_
  refine G.condP rfl (fun hlt => ?_) (fun hlt => ?_)
  · have hi2 : i < n := by omega
    refine G.skip ?_
    refine G.seq ?_
    refine G.block ?_
    refine G.seq ?_
    refine G.region ?_
    refine G.yld (by decide) (Yld.move rfl) ?_
    refine G.yld (by decide) (Yld.assign rfl) ?_
    refine G.done ?_
    refine G.seq ?_
    refine G.region ?_
    refine G.yld (by decide) (Yld.move rfl) ?_
    refine G.yld (by decide) (Yld.move rfl) ?_
    refine G.yld (by decide) (Yld.indexE Try.runUnderlying23 Try.sizeOf5 rfl rfl (by repeat (first | with_reducible exact Pick.here | with_reducible apply Pick.there)) (by decide) (by omega) (by omega)) ?_
    refine G.yld (by decide) (Yld.loadE (v := vU8 (kAt ks i)) Try.isAgg5 rfl (by repeat (first | with_reducible exact Pick.here | with_reducible apply Pick.there)) (by rw [List.getElem?_map]; simp [kAt, List.getD_eq_getElem?_getD, List.getElem?_eq_getElem (show i < ks.length by omega)])) ?_
    refine G.yld (by decide) (Yld.quo_u8 (b := (4 : UInt8)) rfl rfl (by decide)) ?_
    refine G.yld (by decide) (Yld.rem_u8 (b := (4 : UInt8)) rfl rfl (by decide)) ?_
    refine G.yld (by decide) (Yld.conv_u8_u16 Try.runUnderlying5 Try.runUnderlying30 rfl) ?_
    refine G.yld (by decide) (Yld.assign rfl) ?_
    refine G.done ?_
    refine G.seq ?_
    refine G.region ?_
    refine G.yld (by decide) (Yld.move rfl) ?_
    refine G.yld (by decide) (Yld.move rfl) ?_
    refine G.yld (by decide) (Yld.indexE Try.runUnderlying23 Try.sizeOf5 rfl rfl (by repeat (first | with_reducible exact Pick.here | with_reducible apply Pick.there)) (by decide) (by omega) (by omega)) ?_
    refine G.yld (by decide) (Yld.loadE (v := vU8 (kAt ks i)) Try.isAgg5 rfl (by repeat (first | with_reducible exact Pick.here | with_reducible apply Pick.there)) (by rw [List.getElem?_map]; simp [kAt, List.getD_eq_getElem?_getD, List.getElem?_eq_getElem (show i < ks.length by omega)])) ?_
    refine G.yld (by decide) (Yld.quo_u8 (b := (16 : UInt8)) rfl rfl (by decide)) ?_
    refine G.yld (by decide) (Yld.rem_u8 (b := (2 : UInt8)) rfl rfl (by decide)) ?_
    refine G.yld (by decide) (Yld.eql_u8 (b := (1 : UInt8)) rfl rfl) ?_
    refine G.yld (by decide) (Yld.assign rfl) ?_
    refine G.done ?_
    refine G.seq ?_
    refine G.seq ?_
    refine G.region ?_
    refine G.yld (by decide) (Yld.move rfl) ?_
    refine G.yld (by decide) (Yld.move rfl) ?_
    refine G.yld (by decide) (Yld.indexE Try.runUnderlying23 Try.sizeOf5 rfl rfl (by repeat (first | with_reducible exact Pick.here | with_reducible apply Pick.there)) (by decide) (by omega) (by omega)) ?_
    refine G.yld (by decide) (Yld.loadE (v := vU8 (kAt ks i)) Try.isAgg5 rfl (by repeat (first | with_reducible exact Pick.here | with_reducible apply Pick.there)) (by rw [List.getElem?_map]; simp [kAt, List.getD_eq_getElem?_getD, List.getElem?_eq_getElem (show i < ks.length by omega)])) ?_
    refine G.yld (by decide) (Yld.rem_u8 (b := (4 : UInt8)) rfl rfl (by decide)) ?_
    refine G.yld (by decide) (Yld.eql_u8 (b := (0 : UInt8)) rfl rfl) ?_
    refine G.as (t := 48) (v := .bool (stays (kAt ks i))) rfl rfl ?_
    refine G.done ?_
    refine G.cond rfl (fun hs => ?_) (fun hs => ?_)
    · refine G.seq ?_
      refine G.region ?_
      refine G.yld (by decide) (Yld.move rfl) ?_
      refine G.yld (by decide) (Yld.move rfl) ?_
      refine G.yld (by decide) (Yld.buildS (cs := [_, _]) Try_z46 Try_pl46 rfl rfl .nil rfl) ?_
      refine G.yld (by decide) (Yld.move rfl) ?_
      refine G.yld (by decide) (Yld.move rfl) ?_
      refine G.yld (by decide) (Yld.move rfl) ?_
      refine G.yld (by decide) (Yld.conv_i_u32 Try.runUnderlying3 Try.runUnderlying22 rfl) ?_
      rw [cast32 (by omega)]
      refine G.opc (by decide) (OpC.buildOne (cs := [_]) Try.runUnderlying23 Try.sizeOf5 Try.zeroValue5 rfl rfl rfl rfl (by decide)) fun bl => ?_
      refine G.opc (by decide) (OpC.convBytes Try.underlying23 Try.underlying5 rfl (by repeat (first | with_reducible exact Pick.here | with_reducible apply Pick.there))) fun _ => ?_
      refine G.fold (A := bys (.slice (some ⟨bl, 0, none⟩) 1 1) [120]) (.imp (.pick (A := cel false bl _ _) (by repeat (first | with_reducible exact Pick.here | with_reducible apply Pick.there))) (fun r h => sl_row (k := 1) (n := 1) rfl r (by exact h))) ?_
      refine G.yld (by decide) (Yld.buildS (cs := [_, _, _, _, _, _, _, _, _, _, _, _, _, _, _, _, _, _, _]) Try_z36 Try_pl36 rfl rfl (.cons rfl rfl (Nat.le_of_ble_eq_true rfl) (.cons rfl rfl (Nat.le_of_ble_eq_true rfl) (.cons rfl rfl (Nat.le_of_ble_eq_true rfl) (.cons rfl rfl (Nat.le_of_ble_eq_true rfl) (.cons rfl rfl (Nat.le_of_ble_eq_true rfl) .nil))))) rfl) ?_
      refine G.opc (by decide) (OpC.call Try.call14 rfl (send_spec b (stU ks i) i 0 0 { kind := 64, stream := sOf (kAt ks i), loose := loOf (kAt ks i), mid := UInt32.ofNat i } (.slice (some ⟨bl, 0, none⟩) 1 1) [120] 0 (stU_ok (by omega)) (by decide)) (.cons (by repeat (first | with_reducible exact Pick.here | with_reducible apply Pick.there)) (.cons (by repeat (first | with_reducible exact Pick.here | with_reducible apply Pick.there)) .nil))) fun _ => ?_
      refine G.ex fun bvx => ?_
      refine G.star ?_
      refine G.lift ?_
      rintro rfl
      refine G.star ?_
      rw [stU_send0 (by omega) hs]
      refine G.done ?_
      refine G.seq ?_
      refine G.region ?_
      refine G.yld (by decide) (Yld.move rfl) ?_
      refine G.yld (by decide) (Yld.move rfl) ?_
      refine G.yld (by decide) (Yld.min_i rfl rfl) ?_
      refine G.yld (by decide) (Yld.assign rfl) ?_
      refine G.done ?_
      refine G.exit ?_
      refine G.x_exit_block (G.x_then ?_)
      refine G.region ?_
      refine G.yld (by decide) (Yld.add_i (b := (1 : Int)) rfl rfl (by omega)) ?_
      refine G.yld (by decide) (Yld.move rfl) ?_
      refine G.done ?_
      refine G.nil ?_
      refine G.x_then ?_
      exact G.againE (i + 1) (by omega) (.cons (t := 3) rfl (.cons (t := 0) rfl (.cons (t := 4) rfl (.as (t := 5) rfl (congrArg vI (by have h1 := ahead_le (ks := ks) i; simp only [ahead, hs, if_true]; (repeat' split) <;> omega)) (.as (t := 6) rfl (congrArg Value.bool (by simp only [ahead, hs, if_true]; split <;> simp [*])) (.cons (t := 7) rfl (.cons (t := 25) rfl (.cons (t := 26) rfl .nil)))))))) (.cons (.lift (by omega)) (.cons (.pick (by repeat (first | with_reducible exact Pick.here | with_reducible apply Pick.there))) (.cons (.imp (.pick (A := cel true b7 _ _) (by repeat (first | with_reducible exact Pick.here | with_reducible apply Pick.there))) (fun r h => by rw [show ahead ks (i + 1) = ahead ks i by simp only [ahead, hs, if_true]; split <;> simp [*]]; exact h)) (.cons (.pick (by repeat (first | with_reducible exact Pick.here | with_reducible apply Pick.there))) .nil))))
    · refine G.skip ?_
      refine G.seq ?_
      refine G.region ?_
      refine G.yld (by decide) (Yld.move rfl) ?_
      refine G.yld (by decide) (Yld.move rfl) ?_
      refine G.yld (by decide) (Yld.buildS (cs := [_, _]) Try_z46 Try_pl46 rfl rfl (.cons rfl rfl (Nat.le_of_ble_eq_true rfl) (.cons rfl rfl (Nat.le_of_ble_eq_true rfl) .nil)) rfl) ?_
      refine G.yld (by decide) (Yld.move rfl) ?_
      refine G.yld (by decide) (Yld.move rfl) ?_
      refine G.yld (by decide) (Yld.move rfl) ?_
      refine G.yld (by decide) (Yld.conv_i_u32 Try.runUnderlying3 Try.runUnderlying22 rfl) ?_
      rw [cast32 (by omega)]
      refine G.opc (by decide) (OpC.buildOne (cs := [_]) Try.runUnderlying23 Try.sizeOf5 Try.zeroValue5 rfl rfl rfl rfl (by decide)) fun bl => ?_
      refine G.opc (by decide) (OpC.convBytes Try.underlying23 Try.underlying5 rfl (by repeat (first | with_reducible exact Pick.here | with_reducible apply Pick.there))) fun _ => ?_
      refine G.fold (A := bys (.slice (some ⟨bl, 0, none⟩) 1 1) [120]) (.imp (.pick (A := cel false bl _ _) (by repeat (first | with_reducible exact Pick.here | with_reducible apply Pick.there))) (fun r h => sl_row (k := 1) (n := 1) rfl r (by exact h))) ?_
      refine G.yld (by decide) (Yld.buildS (cs := [_, _, _, _, _, _, _, _, _, _, _, _, _, _, _, _, _, _, _]) Try_z36 Try_pl36 rfl rfl (.cons rfl rfl (Nat.le_of_ble_eq_true rfl) (.cons rfl rfl (Nat.le_of_ble_eq_true rfl) (.cons rfl rfl (Nat.le_of_ble_eq_true rfl) (.cons rfl rfl (Nat.le_of_ble_eq_true rfl) (.cons rfl rfl (Nat.le_of_ble_eq_true rfl) .nil))))) rfl) ?_
      refine G.opc (by decide) (OpC.call Try.call14 rfl (send_spec b (stU ks i) i 2 5 { kind := 64, stream := sOf (kAt ks i), loose := loOf (kAt ks i), mid := UInt32.ofNat i } (.slice (some ⟨bl, 0, none⟩) 1 1) [120] 0 (stU_ok (by omega)) (by decide)) (.cons (by repeat (first | with_reducible exact Pick.here | with_reducible apply Pick.there)) (.cons (by repeat (first | with_reducible exact Pick.here | with_reducible apply Pick.there)) .nil))) fun _ => ?_
      refine G.ex fun bvx => ?_
      refine G.star ?_
      refine G.lift ?_
      rintro rfl
      refine G.star ?_
      rw [stU_send2 (by omega) hs]
      refine G.done ?_
      refine G.seq ?_
      refine G.region ?_
      refine G.yld (by decide) (Yld.move rfl) ?_
      refine G.yld (by decide) (Yld.move rfl) ?_
      refine G.yld (by decide) (Yld.eql_i rfl rfl) ?_
      refine G.done ?_
      refine G.condP rfl (fun he => ?_) (fun he => ?_)
      · have ha : ahead ks i = i := by have h1 := ahead_le (ks := ks) i; split at he <;> omega
        have ha2 : ahead ks (i + 1) = i + 1 := by simp [ahead, ha, hs]
        have hat := atU_lt (kAt ks i)
        have hat2 : atU (kAt ks i) = 2 * (kAt ks i / 4 % 4).toUInt16.toNat + if loOf (kAt ks i) then 1 else 0 := by simp [atU]
        refine G.seq ?_
        refine G.region ?_
        refine G.yld (by decide) (Yld.assign rfl) ?_
        refine G.done ?_
        refine G.seq ?_
        refine G.region ?_
        refine G.yld (by decide) (Yld.move rfl) ?_
        refine G.yld (by decide) (Yld.conv_u16_i Try.runUnderlying30 Try.runUnderlying3 rfl) ?_
        refine G.yld (by decide) (Yld.mul_i (a := (2 : Int)) rfl rfl (by split at hat2 <;> omega)) ?_
        refine G.yld (by decide) (Yld.assign rfl) ?_
        refine G.done ?_
        refine G.seq ?_
        refine G.seq ?_
        refine G.region ?_
        refine G.yld (by decide) (Yld.move rfl) ?_
        refine G.done ?_
        refine G.cond rfl (fun hl => ?_) (fun hl => ?_)
        · rw [if_pos hl] at hat2
          refine G.region ?_
          refine G.yld (by decide) (Yld.move rfl) ?_
          refine G.yld (by decide) (Yld.add_i (b := (1 : Int)) rfl rfl (by omega)) ?_
          refine G.yld (by decide) (Yld.assign rfl) ?_
          refine G.done ?_
          refine G.region ?_
          refine G.yld (by decide) (Yld.move rfl) ?_
          refine G.yld (by decide) (Yld.move rfl) ?_
          refine G.yld (by decide) (Yld.add_i (b := (1 : Int)) rfl rfl (by omega)) ?_
          refine G.yld (by decide) (Yld.indexAddrA Try.runUnderlying42 Try.sizeOf3 rfl rfl (by omega) (by omega)) ?_
          refine G.op0  (OpC.store Try.sizeOf3 rfl rfl rfl (by repeat (first | with_reducible exact Pick.here | with_reducible apply Pick.there)) rfl (by simp [latU_length]; omega)) fun _ => ?_
          refine G.done ?_
          refine G.nil ?_
          refine G.x_block (G.x_then ?_)
          refine G.region ?_
          refine G.yld (by decide) (Yld.add_i (b := (1 : Int)) rfl rfl (by omega)) ?_
          refine G.yld (by decide) (Yld.move rfl) ?_
          refine G.done ?_
          refine G.nil ?_
          refine G.x_then ?_
          exact G.againE (i + 1) (by omega) (.cons (t := 3) rfl (.cons (t := 0) rfl (.cons (t := 4) rfl (.as (t := 5) rfl (congrArg vI (by simp [ha, ha2])) (.as (t := 6) rfl (congrArg Value.bool (by simp [ha2])) (.cons (t := 7) rfl (.cons (t := 25) rfl (.cons (t := 26) rfl .nil)))))))) (.cons (.lift (by omega)) (.cons (.pick (by repeat (first | with_reducible exact Pick.here | with_reducible apply Pick.there))) (.cons (.imp (.pick (A := cel true b7 _ _) (by repeat (first | with_reducible exact Pick.here | with_reducible apply Pick.there))) (fun r h => by rw [ha2]; simp only [latU, ha] at h ⊢; rw [show 0 + (2 * (((kAt ks i / 4 % 4).toUInt16.toNat : Nat) : Int) + 1).toNat * 1 = atU (kAt ks i) by omega, ← List.map_set] at h; exact h)) (.cons (.pick (by repeat (first | with_reducible exact Pick.here | with_reducible apply Pick.there))) .nil))))
        · rw [if_neg (by simp [hl])] at hat2
          refine G.skip ?_
          refine G.region ?_
          refine G.yld (by decide) (Yld.move rfl) ?_
          refine G.yld (by decide) (Yld.move rfl) ?_
          refine G.yld (by decide) (Yld.add_i (b := (1 : Int)) rfl rfl (by omega)) ?_
          refine G.yld (by decide) (Yld.indexAddrA Try.runUnderlying42 Try.sizeOf3 rfl rfl (by omega) (by omega)) ?_
          refine G.op0  (OpC.store Try.sizeOf3 rfl rfl rfl (by repeat (first | with_reducible exact Pick.here | with_reducible apply Pick.there)) rfl (by simp [latU_length]; omega)) fun _ => ?_
          refine G.done ?_
          refine G.nil ?_
          refine G.x_block (G.x_then ?_)
          refine G.region ?_
          refine G.yld (by decide) (Yld.add_i (b := (1 : Int)) rfl rfl (by omega)) ?_
          refine G.yld (by decide) (Yld.move rfl) ?_
          refine G.done ?_
          refine G.nil ?_
          refine G.x_then ?_
          exact G.againE (i + 1) (by omega) (.cons (t := 3) rfl (.cons (t := 0) rfl (.cons (t := 4) rfl (.as (t := 5) rfl (congrArg vI (by simp [ha, ha2])) (.as (t := 6) rfl (congrArg Value.bool (by simp [ha2])) (.cons (t := 7) rfl (.cons (t := 25) rfl (.cons (t := 26) rfl .nil)))))))) (.cons (.lift (by omega)) (.cons (.pick (by repeat (first | with_reducible exact Pick.here | with_reducible apply Pick.there))) (.cons (.imp (.pick (A := cel true b7 _ _) (by repeat (first | with_reducible exact Pick.here | with_reducible apply Pick.there))) (fun r h => by rw [ha2]; simp only [latU, ha] at h ⊢; rw [show 0 + (2 * (((kAt ks i / 4 % 4).toUInt16.toNat : Nat) : Int)).toNat * 1 = atU (kAt ks i) by omega, ← List.map_set] at h; exact h)) (.cons (.pick (by repeat (first | with_reducible exact Pick.here | with_reducible apply Pick.there))) .nil))))
      · have ha : ahead ks i ≠ i := fun e => he (by rw [if_pos e])
        have ha2 : ahead ks (i + 1) = ahead ks i := by simp [ahead, ha]
        refine G.skip ?_
        refine G.nil ?_
        refine G.x_block (G.x_then ?_)
        refine G.region ?_
        refine G.yld (by decide) (Yld.add_i (b := (1 : Int)) rfl rfl (by omega)) ?_
        refine G.yld (by decide) (Yld.move rfl) ?_
        refine G.done ?_
        refine G.nil ?_
        refine G.x_then ?_
        exact G.againE (i + 1) (by omega) (.cons (t := 3) rfl (.cons (t := 0) rfl (.cons (t := 4) rfl (.as (t := 5) rfl (congrArg vI (by have h1 := ahead_le (ks := ks) i; rw [ha2, if_neg ha, if_neg (by omega)])) (.as (t := 6) rfl (congrArg Value.bool (by rw [ha2])) (.cons (t := 7) rfl (.cons (t := 25) rfl (.cons (t := 26) rfl .nil)))))))) (.cons (.lift (by omega)) (.cons (.pick (by repeat (first | with_reducible exact Pick.here | with_reducible apply Pick.there))) (.cons (.imp (.pick (A := cel true b7 _ _) (by repeat (first | with_reducible exact Pick.here | with_reducible apply Pick.there))) (fun r h => by rw [ha2]; exact h)) (.cons (.pick (by repeat (first | with_reducible exact Pick.here | with_reducible apply Pick.there))) .nil))))
  · have hi2 : n = i := by omega
    subst hi2
    have hal := ahead_le (ks := ks) n
    by_cases hz : ahead ks n = 0
    · refine G.exit ?_
      refine G.x_exit_then (G.x_exit_then ?_)
      refine G.x_exit_block (G.x_then ?_)
      refine G.unframe (by repeat (first | exact App.nil | apply App.cons)) ?_
      refine G.seq ?_
      refine G.region ?_
      refine G.yld (by decide) (Yld.move rfl) ?_
      refine G.opc (by decide) (OpC.call Try.call15 rfl (expire_spec hsk b (stU ks n) 6 (stU_ok (by omega)) (stU_gone (by omega))) (.cons (by repeat (first | with_reducible exact Pick.here | with_reducible apply Pick.there)) .nil)) fun vx => ?_
      refine G.star ?_
      rw [stU_expire]
      refine G.done ?_
      refine G.seq ?_
      refine G.region ?_
      refine G.yld (by decide) (Yld.move rfl) ?_
      refine G.opc (by decide) (OpC.call Try.call16 rfl (point_spec hss b (stX ks n) true (stX_ok (by omega))) (.cons (by repeat (first | with_reducible exact Pick.here | with_reducible apply Pick.there)) .nil)) fun _ => ?_
      refine G.ex fun sv => ?_
      refine G.star ?_
      refine G.lift ?_
      rintro rfl
      refine G.star ?_
      rw [stX_point (by omega), if_pos hz]
      refine G.pick (A := sl true 3 sv _ _) (by repeat (first | with_reducible exact Pick.here | with_reducible apply Pick.there)) (G.slv fun asl caps hsv hls hcs => ?_)
      subst hsv
      refine G.yld (by decide) (Yld.move rfl) ?_
      refine G.yld (by decide) (Yld.extract rfl rfl) ?_
      refine G.yld (by decide) (Yld.extract rfl rfl) ?_
      refine G.opc (by decide) (OpC.alloc (cs := [.int .u8 0, .bool false, .bool false, .bool false, .bool false, .int .u32 0, .int .u16 0, .int .u32 0, .int .u32 0, .int .u32 0, .int .u32 0, .int .u32 0, .int .u16 0, .int .u16 0, .slice none 0 0, .slice none 0 0, .slice none 0 0, .slice none 0 0, .slice none 0 0]) Try.zeroValue36 rfl) fun b12 => ?_
      refine G.op0  (OpC.storeAgg (k := 19) Try.sizeOf36 rfl rfl rfl rfl (by repeat (first | with_reducible exact Pick.here | with_reducible apply Pick.there)) (setWhole rfl) (Nat.le_of_ble_eq_true rfl)) fun _ => ?_
      refine G.yld (by decide) (Yld.assign rfl) ?_
      refine G.done ?_
      refine G.seq ?_
      refine G.seq ?_
      refine G.region ?_
      refine G.yld (by decide) (Yld.move rfl) ?_
      refine G.yld (by decide) (Yld.move rfl) ?_
      refine G.yld (by decide) (Yld.neq_b Try.underlying4 rfl rfl) ?_
      refine G.as (t := 97) (v := .bool false) rfl (congrArg Value.bool (decide_eq_false (by simp [hz, ptO]))) ?_
      refine G.done ?_
      refine G.condF rfl ?_
      refine G.skip ?_
      refine G.seq ?_
      refine G.seq ?_
      refine G.region ?_
      refine G.yld (by decide) (Yld.move rfl) ?_
      refine G.yld (by decide) (Yld.not rfl) ?_
      refine G.done ?_
      refine G.condT rfl ?_
      refine G.seq ?_
      refine G.region ?_
      refine G.yld (by decide) (Yld.fieldAddr Try_fo36_16 rfl) ?_
      refine G.yld (by decide) (Yld.load rfl Try.isAgg33 (by repeat (first | with_reducible exact Pick.here | with_reducible apply Pick.there)) rfl) ?_
      refine G.yld (by decide) (Yld.len_slice Try.runUnderlying33 rfl) ?_
      refine G.yld (by decide) (Yld.eql_i (b := (0 : Int)) rfl rfl) ?_
      refine G.yld (by decide) (Yld.assign rfl) ?_
      refine G.done ?_
      refine G.ret ?_
      refine G.ret1 (.inr rfl) Try.results4 (.tmp rfl) ?_
      exact ⟨_, (.lift rfl)⟩
    · refine G.exit ?_
      refine G.x_exit_then (G.x_exit_then ?_)
      refine G.x_exit_block (G.x_then ?_)
      refine G.unframe (by repeat (first | exact App.nil | apply App.cons)) ?_
      refine G.seq ?_
      refine G.region ?_
      refine G.yld (by decide) (Yld.move rfl) ?_
      refine G.opc (by decide) (OpC.call Try.call15 rfl (expire_spec hsk b (stU ks n) 6 (stU_ok (by omega)) (stU_gone (by omega))) (.cons (by repeat (first | with_reducible exact Pick.here | with_reducible apply Pick.there)) .nil)) fun vx => ?_
      refine G.star ?_
      rw [stU_expire]
      refine G.done ?_
      refine G.seq ?_
      refine G.region ?_
      refine G.yld (by decide) (Yld.move rfl) ?_
      refine G.opc (by decide) (OpC.call Try.call16 rfl (point_spec hss b (stX ks n) true (stX_ok (by omega))) (.cons (by repeat (first | with_reducible exact Pick.here | with_reducible apply Pick.there)) .nil)) fun _ => ?_
      refine G.ex fun sv => ?_
      refine G.star ?_
      refine G.lift ?_
      rintro rfl
      refine G.star ?_
      rw [stX_point (by omega), if_neg hz]
      refine G.pick (A := sl true 3 sv _ _) (by repeat (first | with_reducible exact Pick.here | with_reducible apply Pick.there)) (G.slv fun asl caps hsv hls hcs => ?_)
      subst hsv
      refine G.yld (by decide) (Yld.move rfl) ?_
      refine G.yld (by decide) (Yld.extract rfl rfl) ?_
      refine G.yld (by decide) (Yld.extract rfl rfl) ?_
      refine G.opc (by decide) (OpC.alloc (cs := [.int .u8 0, .bool false, .bool false, .bool false, .bool false, .int .u32 0, .int .u16 0, .int .u32 0, .int .u32 0, .int .u32 0, .int .u32 0, .int .u32 0, .int .u16 0, .int .u16 0, .slice none 0 0, .slice none 0 0, .slice none 0 0, .slice none 0 0, .slice none 0 0]) Try.zeroValue36 rfl) fun b12 => ?_
      refine G.op0  (OpC.storeAgg (k := 19) Try.sizeOf36 rfl rfl rfl rfl (by repeat (first | with_reducible exact Pick.here | with_reducible apply Pick.there)) (setWhole rfl) (Nat.le_of_ble_eq_true rfl)) fun _ => ?_
      refine G.yld (by decide) (Yld.assign rfl) ?_
      refine G.done ?_
      refine G.seq ?_
      refine G.seq ?_
      refine G.region ?_
      refine G.yld (by decide) (Yld.move rfl) ?_
      refine G.yld (by decide) (Yld.move rfl) ?_
      refine G.yld (by decide) (Yld.neq_b Try.underlying4 rfl rfl) ?_
      refine G.as (t := 97) (v := .bool false) rfl (congrArg Value.bool (decide_eq_false (by simp [hz, ptO]))) ?_
      refine G.done ?_
      refine G.condF rfl ?_
      refine G.skip ?_
      refine G.seq ?_
      refine G.seq ?_
      refine G.region ?_
      refine G.yld (by decide) (Yld.move rfl) ?_
      refine G.yld (by decide) (Yld.not rfl) ?_
      refine G.done ?_
      refine G.condF rfl ?_
      obtain ⟨m, hm⟩ : ∃ m, ahead ks n = m := ⟨_, rfl⟩
      rw [hm] at hal hz ⊢
      refine G.skip ?_
      refine G.seq ?_
      refine G.region ?_
      refine G.yld (by decide) (Yld.assign rfl) ?_
      refine G.done ?_
      refine G.seq ?_
      refine G.seq ?_
      refine G.region ?_
      refine G.yld (by decide) (Yld.loadAgg (cs := ((latU ks m).map vI)) rfl Try.isAgg42 Try.sizeOf42 (by repeat (first | with_reducible exact Pick.here | with_reducible apply Pick.there)) (by simp [latU_length]) (aggAt (by simp [latU_length]; exact List.take_of_length_le (by simp [latU_length])))) ?_
      refine G.yld (by decide) (Yld.move rfl) ?_
      refine G.done ?_
      refine G.block ?_
      refine G.loopE (X := Nat × Option Addr × Nat) (fun x => [(5, vI (if m = n then (n : Int) else (m : Int))), (12, ptr b12), (104, .agg ((latU ks m).map vI).toArray), (105, vI x.1), (14, .slice x.2.1 (wantK (latU ks m) x.1).length x.2.2)]) (fun x => [lift (x.1 ≤ 8), cel true b12 36 (ckv { kind := 194, tsn := 99 + UInt32.ofNat m } nilS nilS (.slice asl (wantU (latU ks m)).length caps) nilS nilS), sl true 3 (.slice asl (wantU (latU ks m)).length caps) (wantU (latU ks m)).length (skc (wantU (latU ks m))), sl true 3 (.slice x.2.1 (wantK (latU ks m) x.1).length x.2.2) (wantK (latU ks m) x.1).length (skc (wantK (latU ks m) x.1))]) (fun x => 8 - x.1) (0, none, 0) (.cons (t := 5) rfl (.cons (t := 12) rfl (.cons (t := 104) rfl (.cons (t := 105) rfl (.cons (t := 14) rfl .nil))))) (.cons (.lift (Nat.zero_le _)) (.cons (.imp (.pick (A := cel true b12 _ _) (by repeat (first | with_reducible exact Pick.here | with_reducible apply Pick.there))) (fun r h => by exact h)) (.cons (.imp (.pick (A := sl true 3 (.slice asl _ _) _ _) (by repeat (first | with_reducible exact Pick.here | with_reducible apply Pick.there))) (fun r h => by exact h)) (.cons (.imp .emp fun _ _ => sl_nil) .nil)))) fun ⟨i, aw, cw⟩ => ?_
      refine G.lift fun hi8 => ?_
      simp only at hi8
      refine G.seq ?_
      refine G.region ?_
      refine G.yld (by decide) (Yld.lss_i (b := (8 : Int)) rfl rfl) ?_
      refine G.done ?_
      refine G.seq ?_
      refine G.condP rfl (fun hlt2 => ?_) (fun hlt2 => ?_)
      · have hi9 : i < 8 := by omega
        have hla := lastU_le (ks := ks) i m
        refine G.skip ?_
        refine G.seq ?_
        refine G.block ?_
        refine G.seq ?_
        refine G.region ?_
        refine G.yld (by decide) (Yld.move rfl) ?_
        refine G.yld (by decide) (Yld.indexA Try.runUnderlying42 Try.sizeOf3 Try.isAgg3 rfl rfl (by omega) (by omega) (by simp only [Int.toNat_natCast]; rw [List.getElem?_map, latU_get m i hi9]; rfl)) ?_
        refine G.yld (by decide) (Yld.assign rfl) ?_
        refine G.yld (by decide) (Yld.assign rfl) ?_
        refine G.done ?_
        refine G.seq ?_
        refine G.region ?_
        refine G.yld (by decide) (Yld.move rfl) ?_
        refine G.yld (by decide) (Yld.gtr_i (b := (0 : Int)) rfl rfl) ?_
        refine G.done ?_
        refine G.condP rfl (fun hp => ?_) (fun hp => ?_)
        · have hw := wantK_yes (l := latU ks m) (i := i) (by rw [latU_getD hi9]; exact hp)
          have hwl := wantK_len (latU ks m) i
          refine G.region ?_
          refine G.yld (by decide) (Yld.move rfl) ?_
          refine G.yld (by decide) (Yld.move rfl) ?_
          refine G.yld (by decide) (Yld.quo_i (b := 2) rfl rfl (by decide) (by omega)) ?_
          refine G.yld (by decide) (Yld.conv_i_u16 Try.runUnderlying3 Try.runUnderlying30 rfl) ?_
          rw [show UInt16.ofNat ((((i / 2 : Nat)) : Int) % 65536).toNat = UInt16.ofNat (i / 2) by congr 1; omega]
          refine G.yld (by decide) (Yld.move rfl) ?_
          refine G.yld (by decide) (Yld.rem_i (b := 2) rfl rfl (by decide)) ?_
          refine G.yld (by decide) (Yld.eql_i (b := (1 : Int)) rfl rfl) ?_
          rw [show decide ((((i % 2 : Nat)) : Int) = (1 : Int)) = decide (i % 2 = 1) by rw [decide_eq_decide]; omega]
          refine G.yld (by decide) (Yld.move rfl) ?_
          refine G.yld (by decide) (Yld.sub_i (b := (1 : Int)) rfl rfl (by omega)) ?_
          refine G.yld (by decide) (Yld.conv_i_u32 Try.runUnderlying3 Try.runUnderlying22 rfl) ?_
          rw [show UInt32.ofNat ((lastU ks i m - 1) % 4294967296).toNat = UInt32.ofNat ((latU ks m).getD i 0 - 1).toNat by rw [latU_getD hi9]; congr 1; omega]
          refine G.yld (by decide) (Yld.buildS (cs := [_, _, _]) Try_z52 Try_pl52 rfl rfl (.cons rfl rfl (Nat.le_of_ble_eq_true rfl) (.cons rfl rfl (Nat.le_of_ble_eq_true rfl) (.cons rfl rfl (Nat.le_of_ble_eq_true rfl) .nil))) rfl) ?_
          refine G.opc (by decide) (OpC.buildOne (cs := [_, _, _]) Try.runUnderlying33 Try.sizeOf52 Try.zeroValue52 rfl rfl rfl rfl (by decide)) fun bs => ?_
          refine G.fold (A := sl true 3 (.slice (some ⟨bs, 0, none⟩) 1 1) 1 (skv (skW (latU ks m) i))) (.imp (.pick (A := cel _ bs _ _) (by repeat (first | with_reducible exact Pick.here | with_reducible apply Pick.there))) (fun r h => sl_row (k := 3) (n := 1) rfl r (by exact h))) ?_
          refine G.opc (by decide) (OpC.appendE (kk := 3) (bytes := 8) Try.underlying33 Try.type52 rfl rfl rfl rfl rfl Try.underlying33 rfl rfl (by repeat (first | with_reducible exact Pick.here | with_reducible apply Pick.there)) (by repeat (first | with_reducible exact Pick.here | with_reducible apply Pick.there)) rfl (room_of _ _ (by decide) (by show (wantK (latU ks m) i).length + 1 ≤ _; omega)) rfl (skc_snoc' _ _)) fun vw => ?_
          refine G.slv fun aw2 cw2 hvw hlw hcw => ?_
          subst hvw
          refine G.yld (by decide) (Yld.assign rfl) ?_
          refine G.done ?_
          refine G.nil ?_
          refine G.x_block (G.x_then ?_)
          refine G.region ?_
          refine G.yld (by decide) (Yld.add_i (b := (1 : Int)) rfl rfl (by omega)) ?_
          refine G.yld (by decide) (Yld.move rfl) ?_
          refine G.done ?_
          refine G.nil ?_
          refine G.x_then ?_
          exact G.againE (i + 1, aw2, cw2) (by simp only; omega) (.cons (t := 5) rfl (.cons (t := 12) rfl (.cons (t := 104) rfl (.cons (t := 105) rfl (.as (t := 14) rfl (by simp only; rw [hw]; simp) .nil))))) (.cons (.lift (by simp only; omega)) (.cons (.pick (A := cel true b12 _ _) (by repeat (first | with_reducible exact Pick.here | with_reducible apply Pick.there))) (.cons (.pick (A := sl true 3 (.slice asl _ _) _ _) (by repeat (first | with_reducible exact Pick.here | with_reducible apply Pick.there))) (.cons (.imp (.pick (A := sl true 3 (.slice aw2 _ _) _ _) (by repeat (first | with_reducible exact Pick.here | with_reducible apply Pick.there))) (fun r h => by simp only; rw [hw]; simpa using h)) .nil))))
        · have hw := wantK_no (l := latU ks m) (i := i) (by rw [latU_getD hi9]; exact hp)
          refine G.skip ?_
          refine G.nil ?_
          refine G.x_block (G.x_then ?_)
          refine G.region ?_
          refine G.yld (by decide) (Yld.add_i (b := (1 : Int)) rfl rfl (by omega)) ?_
          refine G.yld (by decide) (Yld.move rfl) ?_
          refine G.done ?_
          refine G.nil ?_
          refine G.x_then ?_
          exact G.againE (i + 1, aw, cw) (by simp only; omega) (.cons (t := 5) rfl (.cons (t := 12) rfl (.cons (t := 104) rfl (.cons (t := 105) rfl (.as (t := 14) rfl (by simp only; rw [hw]) .nil))))) (.cons (.lift (by simp only; omega)) (.cons (.pick (A := cel true b12 _ _) (by repeat (first | with_reducible exact Pick.here | with_reducible apply Pick.there))) (.cons (.pick (A := sl true 3 (.slice asl _ _) _ _) (by repeat (first | with_reducible exact Pick.here | with_reducible apply Pick.there))) (.cons (.imp (.pick (A := sl true 3 (.slice aw _ _) _ _) (by repeat (first | with_reducible exact Pick.here | with_reducible apply Pick.there))) (fun r h => by simp only; rw [hw]; exact h)) .nil))))
      · have hi3 : i = 8 := by omega
        subst hi3
        simp only [wantK_8]
        refine G.exit ?_
        refine G.x_exit_then (G.x_exit_then ?_)
        refine G.x_exit_block (G.x_then ?_)
        refine G.unframe (by repeat (first | exact App.nil | apply App.cons)) ?_
        refine G.seq ?_
        refine G.seq ?_
        refine G.region ?_
        refine G.yld (by decide) (Yld.fieldAddr Try_fo36_5 rfl) ?_
        refine G.yld (by decide) (Yld.load rfl Try.isAgg22 (by repeat (first | with_reducible exact Pick.here | with_reducible apply Pick.there)) rfl) ?_
        refine G.yld (by decide) (Yld.move rfl) ?_
        refine G.yld (by decide) (Yld.conv_i_u32 Try.runUnderlying3 Try.runUnderlying22 rfl) ?_
        refine G.yld (by decide) (Yld.add_u32 (a := (99 : UInt32)) rfl rfl) ?_
        refine G.yld (by decide) (Yld.neq_u32 rfl rfl) ?_
        refine G.as (t := 130) (v := .bool false) rfl (congrArg Value.bool (decide_eq_false (not_not_intro (by rw [show UInt32.ofNat ((if m = n then (n : Int) else (m : Int)) % 4294967296).toNat = UInt32.ofNat m by congr 1; split <;> omega])))) ?_
        refine G.yld (by decide) (Yld.move rfl) ?_
        refine G.yldG (by decide) rfl rfl (Yld.fieldAddr Try_fo36_16 rfl) ?_
        refine G.yldG (by decide) rfl rfl (Yld.load rfl Try.isAgg33 (by repeat (first | with_reducible exact Pick.here | with_reducible apply Pick.there)) rfl) ?_
        refine G.yldG (by decide) rfl rfl (Yld.len_slice Try.runUnderlying33 rfl) ?_
        refine G.yldG (by decide) rfl rfl (Yld.move rfl) ?_
        refine G.yldG (by decide) rfl rfl (Yld.len_slice Try.runUnderlying33 rfl) ?_
        refine G.yldG (by decide) rfl rfl (Yld.neq_i rfl rfl) ?_
        refine G.as (t := 137) (v := .bool false) rfl (congrArg Value.bool (decide_eq_false (not_not_intro rfl))) ?_
        refine G.yld (by decide) (Yld.pickF rfl rfl) ?_
        refine G.done ?_
        refine G.condF rfl ?_
        refine G.skip ?_
        refine G.seq ?_
        refine G.seq ?_
        refine G.region ?_
        refine G.yld (by decide) (Yld.move rfl) ?_
        refine G.yld (by decide) (Yld.len_slice Try.runUnderlying33 rfl) ?_
        refine G.yld (by decide) (Yld.move rfl) ?_
        refine G.done ?_
        refine G.block ?_
        refine G.loopE (X := Nat) (fun i => [(12, ptr b12), (14, .slice aw (wantU (latU ks m)).length cw), (140, vI (wantU (latU ks m)).length), (141, vI i)]) (fun i => [lift (i ≤ (wantU (latU ks m)).length), cel true b12 36 (ckv { kind := 194, tsn := 99 + UInt32.ofNat m } nilS nilS (.slice asl (wantU (latU ks m)).length caps) nilS nilS), sl true 3 (.slice asl (wantU (latU ks m)).length caps) (wantU (latU ks m)).length (skc (wantU (latU ks m))), sl true 3 (.slice aw (wantU (latU ks m)).length cw) (wantU (latU ks m)).length (skc (wantU (latU ks m)))]) (fun i => (wantU (latU ks m)).length - i) 0 (.cons (t := 12) rfl (.cons (t := 14) rfl (.cons (t := 140) rfl (.cons (t := 141) rfl .nil)))) (.cons (.lift (Nat.zero_le _)) (.cons (.pick (A := cel true b12 _ _) (by repeat (first | with_reducible exact Pick.here | with_reducible apply Pick.there))) (.cons (.pick (A := sl true 3 (.slice asl _ _) _ _) (by repeat (first | with_reducible exact Pick.here | with_reducible apply Pick.there))) (.cons (.pick (A := sl true 3 (.slice aw _ _) _ _) (by repeat (first | with_reducible exact Pick.here | with_reducible apply Pick.there))) .nil)))) fun i => ?_
        refine G.lift fun hi4 => ?_
        have hwl8 := wantK_len (latU ks m) 8
        rw [wantK_8] at hwl8
        refine G.seq ?_
        refine G.region ?_
        refine G.yld (by decide) (Yld.lss_i rfl rfl) ?_
        refine G.done ?_
        refine G.seq ?_
        refine G.condP rfl (fun hlt3 => ?_) (fun hlt3 => ?_)
        · obtain ⟨s, hs⟩ : ∃ s, (wantU (latU ks m))[i]? = some s := ⟨_, List.getElem?_eq_getElem (by omega)⟩
          refine G.skip ?_
          refine G.seq ?_
          refine G.block ?_
          refine G.seq ?_
          refine G.region ?_
          refine G.yld (by decide) (Yld.move rfl) ?_
          refine G.yld (by decide) (Yld.assign rfl) ?_
          refine G.done ?_
          refine G.seq ?_
          refine G.draw Try_mixed (.still 0 (.still 1 (.still 2 (.still 3 (.still 4 (.still 5 (.still 6 (.still 7 (.still 8 (.still 9 (.done))))))))))) (by kernel_rfl) (Picks.refl _) ?_
          refine GO.yld (i := 0) rfl (by decide) (Yld.fieldAddr Try_fo36_16 rfl) ?_
          refine GO.yld (i := 1) rfl (by decide) (Yld.load rfl Try.isAgg33 (by repeat (first | with_reducible exact Pick.here | with_reducible apply Pick.there)) rfl) ?_
          refine GO.yld (i := 2) rfl (by decide) (Yld.move rfl) ?_
          refine GO.yld (i := 3) rfl (by decide) (Yld.indexE Try.runUnderlying33 Try.sizeOf52 rfl rfl (show Pick _ (sl true 3 (.slice asl _ _) _ _) _ from by repeat (first | with_reducible exact Pick.here | with_reducible apply Pick.there)) (by decide) (by omega) (by omega)) ?_
          refine GO.yld (i := 4) rfl (by decide) (Yld.loadAggE (us := (skv s)) Try.isAgg52 Try.sizeOf52 rfl (show Pick _ (sl true 3 (.slice asl _ _) _ _) _ from by repeat (first | with_reducible exact Pick.here | with_reducible apply Pick.there)) rfl (by decide) (by simpa using skc_at hs)) ?_
          refine GO.yld (i := 5) rfl (by decide) (Yld.move rfl) ?_
          refine GO.yld (i := 6) rfl (by decide) (Yld.move rfl) ?_
          refine GO.yld (i := 7) rfl (by decide) (Yld.indexE Try.runUnderlying33 Try.sizeOf52 rfl rfl (show Pick _ (sl true 3 (.slice aw _ _) _ _) _ from by repeat (first | with_reducible exact Pick.here | with_reducible apply Pick.there)) (by decide) (by omega) (by omega)) ?_
          refine GO.yld (i := 8) rfl (by decide) (Yld.loadAggE (us := (skv s)) Try.isAgg52 Try.sizeOf52 rfl (show Pick _ (sl true 3 (.slice aw _ _) _ _) _ from by repeat (first | with_reducible exact Pick.here | with_reducible apply Pick.there)) rfl (by decide) (by simpa using skc_at hs)) ?_
          refine GO.yld (i := 9) rfl (by decide) (Yld.neqAgg (r := true) guard52 rfl rfl (fun w => by rw [eq52n 9998 s s w]; simp)) ?_
          refine GO.done ?_
          refine G.condF rfl ?_
          refine G.skip ?_
          refine G.nil ?_
          refine G.x_block (G.x_then ?_)
          refine G.region ?_
          refine G.yld (by decide) (Yld.add_i (b := (1 : Int)) rfl rfl (by omega)) ?_
          refine G.yld (by decide) (Yld.move rfl) ?_
          refine G.done ?_
          refine G.nil ?_
          refine G.x_then ?_
          exact G.againE (i + 1) (by omega) (.cons (t := 12) rfl (.cons (t := 14) rfl (.cons (t := 140) rfl (.cons (t := 141) rfl .nil)))) (.cons (.lift (by omega)) (.cons (.pick (A := cel true b12 _ _) (by repeat (first | with_reducible exact Pick.here | with_reducible apply Pick.there))) (.cons (.pick (A := sl true 3 (.slice asl _ _) _ _) (by repeat (first | with_reducible exact Pick.here | with_reducible apply Pick.there))) (.cons (.pick (A := sl true 3 (.slice aw _ _) _ _) (by repeat (first | with_reducible exact Pick.here | with_reducible apply Pick.there))) .nil))))
        · refine G.exit ?_
          refine G.x_exit_then (G.x_exit_then ?_)
          refine G.x_exit_block (G.x_then ?_)
          refine G.unframe (by repeat (first | exact App.nil | apply App.cons)) ?_
          refine G.seq ?_
          refine G.region ?_
          refine G.yld (by decide) (Yld.assign rfl) ?_
          refine G.done ?_
          refine G.ret ?_
          refine G.ret1 (.inr rfl) Try.results4 (.tmp rfl) ?_
          exact ⟨_, (.lift rfl)⟩
end Go.Fl
