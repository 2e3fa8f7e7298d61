/- Contracts, printed by a program of mine and proved by Lean. -/
import Derived.Test.YtogemllbdkbjkaaFlA8
import Derived.Test.YtogemllbdkbjkaaFlFirstF
import Derived.Test.YtogemllbdkbjkaaSlBytes
set_option linter.unusedVariables false
set_option linter.unusedSimpArgs false
namespace Go.Fl
open Go Go.Sl Go.Proofs
set_option maxRecDepth 10000
set_option linter.unusedVariables false
theorem ack1_spec (b : Nat) (gv : Value) : Sl.Spec Try.prog 17 [ptr b, .agg (ckv { kind := 3, tsn := 5 } gv nilS nilS nilS nilS).toArray, vU32 14].toArray [isF b F3, sl true 2 gv 1 (gpc [(2, 2)])] (fun v => star (lift (v = (⟨3, true, false, 4, false⟩ : Acked).val)) (isF b F4)) := by
  have h := ack_spec (m := true) b F3 { kind := 3, tsn := 5 } gv [(2, 2)] 14 ok3 (by decide)
  simp only [ack1] at h
  exact h.post fun v r hr => star_mono (fun _ h => h) (fun _ h => star_left Mono.isF h) hr
theorem ack2_spec (b : Nat) : Sl.Spec Try.prog 17 [ptr b, .agg (ckv { kind := 3, tsn := 8 } nilS nilS nilS nilS nilS).toArray, vU32 14].toArray [isF b F4, sl true 2 nilS 0 (gpc [])] (fun v => star (lift (v = (⟨0, false, false, -1, true⟩ : Acked).val)) (isF b F4)) := by
  have h := ack_spec (m := true) b F4 { kind := 3, tsn := 8 } nilS [] 14 ok4 (by decide)
  simp only [ack2] at h
  exact h.post fun v r hr => star_mono (fun _ h => h) (fun _ h => star_left Mono.isF h) hr
theorem first_spec  : Sl.Spec Try.prog 12 [].toArray [] (fun v => lift (v = .bool true)) := by
  refine Sl.Spec.of_body (vs := []) Try.func12 Try.ntmps12 (Nat.le_of_ble_eq_true rfl) rfl fun w0 F => ?_
  refine G.seq ?_
  refine G.region ?_
  refine G.yld (by decide) (Yld.assign rfl) ?_
  refine G.done ?_
  refine G.seq ?_
  refine G.region ?_
  refine G.opc (by decide) (OpC.call Try.call13 rfl (flNew_spec 5) .nil) fun _ => ?_
  refine G.ex fun b => ?_
  refine G.star ?_
  refine G.lift ?_
  rintro rfl
  refine G.conv (A := isF b _) (by repeat (first | with_reducible exact Pick.here | with_reducible apply Pick.there)) (A' := isF b F0) (fun _ h => by exact h) ?_
  refine G.yld (by decide) (Yld.assign rfl) ?_
  refine G.done ?_
  refine G.seq ?_
  refine G.seq ?_
  refine G.region ?_
  refine G.yld (by decide) (Yld.move rfl) ?_
  refine G.yld (by decide) (Yld.eqlNil_ptr Try.underlying40 rfl) ?_
  refine G.done ?_
  refine G.condF rfl ?_
  refine G.skip ?_
  refine G.seq ?_
  refine G.region ?_
  refine G.yld (by decide) (Yld.move rfl) ?_
  refine G.yld (by decide) (Yld.buildS (cs := [_, _]) Try_z46 Try_pl46 rfl rfl .nil rfl) ?_
  refine G.opc (by decide) (OpC.buildN (cs := [_, _]) Try.runUnderlying23 Try.sizeOf5 Try.zeroValue5 rfl rfl (by decide) (.cons rfl rfl (Nat.le_of_ble_eq_true rfl) (.cons rfl rfl (Nat.le_of_ble_eq_true rfl) .nil)) (fun z hz => by match z, hz with | [_, _], _ => rfl)) fun bl1 => ?_
  refine G.opc (by decide) (OpC.convBytes Try.underlying23 Try.underlying5 rfl (by repeat (first | with_reducible exact Pick.here | with_reducible apply Pick.there))) fun _ => ?_
  refine G.fold (A := bys (.slice (some ⟨bl1, 0, none⟩) 2 2) [97, 98]) (.imp (.pick (A := cel false bl1 _ _) (by repeat (first | with_reducible exact Pick.here | with_reducible apply Pick.there))) (fun r h => sl_row (k := 1) (n := 2) rfl r (by exact h))) ?_
  refine G.yld (by decide) (Yld.buildS (cs := [_, _, _, _, _, _, _, _, _, _, _, _, _, _, _, _, _, _, _]) Try_z36 Try_pl36 rfl rfl (.cons rfl rfl (Nat.le_of_ble_eq_true rfl) (.cons rfl rfl (Nat.le_of_ble_eq_true rfl) .nil)) rfl) ?_
  refine G.opc (by decide) (OpC.call Try.call14 rfl (send_spec b F0 1 0 0 { kind := 64 } (.slice (some ⟨bl1, 0, none⟩) 2 2) [97, 98] 10 ok0 (by decide)) (.cons (by repeat (first | with_reducible exact Pick.here | with_reducible apply Pick.there)) (.cons (by repeat (first | with_reducible exact Pick.here | with_reducible apply Pick.there)) .nil))) fun _ => ?_
  refine G.ex fun bv => ?_
  refine G.star ?_
  refine G.lift ?_
  rintro rfl
  refine G.star ?_
  refine G.conv (A := isF b _) (by repeat (first | with_reducible exact Pick.here | with_reducible apply Pick.there)) (A' := isF b F1) (fun _ h => by exact h) ?_
  refine G.fact (A := sl true _ bv _ _) (by repeat (first | with_reducible exact Pick.here | with_reducible apply Pick.there)) sl_cell fun hbv => ?_
  refine G.opc (by decide) (OpC.alloc (cs := [.int .u8 0, .bool false, .bool false, .bool false, .bool false, .int .u32 0, .int .u16 0, .int .u32 0, .int .u32 0, .int .u32 0, .int .u32 0, .int .u32 0, .int .u16 0, .int .u16 0, .slice none 0 0, .slice none 0 0, .slice none 0 0, .slice none 0 0, .slice none 0 0]) Try.zeroValue36 rfl) fun b2 => ?_
  refine G.op0  (OpC.storeAgg (k := 19) Try.sizeOf36 rfl rfl rfl (by simp only [List.all_cons, List.all_nil, hbv]; rfl) (by repeat (first | with_reducible exact Pick.here | with_reducible apply Pick.there)) (setWhole rfl) (Nat.le_of_ble_eq_true rfl)) fun _ => ?_
  refine G.done ?_
  refine G.seq ?_
  refine G.region ?_
  refine G.yld (by decide) (Yld.move rfl) ?_
  refine G.yld (by decide) (Yld.buildS (cs := [_, _]) Try_z46 Try_pl46 rfl rfl .nil rfl) ?_
  refine G.opc (by decide) (OpC.buildOne (cs := [_]) Try.runUnderlying23 Try.sizeOf5 Try.zeroValue5 rfl rfl rfl rfl (by decide)) fun bl2 => ?_
  refine G.opc (by decide) (OpC.convBytes Try.underlying23 Try.underlying5 rfl (by repeat (first | with_reducible exact Pick.here | with_reducible apply Pick.there))) fun _ => ?_
  refine G.fold (A := bys (.slice (some ⟨bl2, 0, none⟩) 1 1) [99]) (.imp (.pick (A := cel false bl2 _ _) (by repeat (first | with_reducible exact Pick.here | with_reducible apply Pick.there))) (fun r h => sl_row (k := 1) (n := 1) rfl r (by exact h))) ?_
  refine G.yld (by decide) (Yld.buildS (cs := [_, _, _, _, _, _, _, _, _, _, _, _, _, _, _, _, _, _, _]) Try_z36 Try_pl36 rfl rfl (.cons rfl rfl (Nat.le_of_ble_eq_true rfl) (.cons rfl rfl (Nat.le_of_ble_eq_true rfl) .nil)) rfl) ?_
  refine G.opc (by decide) (OpC.call Try.call14 rfl (send_spec b F1 1 0 0 { kind := 64 } (.slice (some ⟨bl2, 0, none⟩) 1 1) [99] 10 ok1 (by decide)) (.cons (by repeat (first | with_reducible exact Pick.here | with_reducible apply Pick.there)) (.cons (by repeat (first | with_reducible exact Pick.here | with_reducible apply Pick.there)) .nil))) fun _ => ?_
  refine G.ex fun bv => ?_
  refine G.star ?_
  refine G.lift ?_
  rintro rfl
  refine G.star ?_
  refine G.conv (A := isF b _) (by repeat (first | with_reducible exact Pick.here | with_reducible apply Pick.there)) (A' := isF b F2) (fun _ h => by exact h) ?_
  refine G.done ?_
  refine G.seq ?_
  refine G.region ?_
  refine G.yld (by decide) (Yld.move rfl) ?_
  refine G.yld (by decide) (Yld.buildS (cs := [_, _]) Try_z46 Try_pl46 rfl rfl .nil rfl) ?_
  refine G.opc (by decide) (OpC.buildOne (cs := [_]) Try.runUnderlying23 Try.sizeOf5 Try.zeroValue5 rfl rfl rfl rfl (by decide)) fun bl3 => ?_
  refine G.opc (by decide) (OpC.convBytes Try.underlying23 Try.underlying5 rfl (by repeat (first | with_reducible exact Pick.here | with_reducible apply Pick.there))) fun _ => ?_
  refine G.fold (A := bys (.slice (some ⟨bl3, 0, none⟩) 1 1) [100]) (.imp (.pick (A := cel false bl3 _ _) (by repeat (first | with_reducible exact Pick.here | with_reducible apply Pick.there))) (fun r h => sl_row (k := 1) (n := 1) rfl r (by exact h))) ?_
  refine G.yld (by decide) (Yld.buildS (cs := [_, _, _, _, _, _, _, _, _, _, _, _, _, _, _, _, _, _, _]) Try_z36 Try_pl36 rfl rfl (.cons rfl rfl (Nat.le_of_ble_eq_true rfl) (.cons rfl rfl (Nat.le_of_ble_eq_true rfl) .nil)) rfl) ?_
  refine G.opc (by decide) (OpC.call Try.call14 rfl (send_spec b F2 1 0 0 { kind := 64 } (.slice (some ⟨bl3, 0, none⟩) 1 1) [100] 10 ok2 (by decide)) (.cons (by repeat (first | with_reducible exact Pick.here | with_reducible apply Pick.there)) (.cons (by repeat (first | with_reducible exact Pick.here | with_reducible apply Pick.there)) .nil))) fun _ => ?_
  refine G.ex fun bv => ?_
  refine G.star ?_
  refine G.lift ?_
  rintro rfl
  refine G.star ?_
  refine G.conv (A := isF b _) (by repeat (first | with_reducible exact Pick.here | with_reducible apply Pick.there)) (A' := isF b F3) (fun _ h => by exact h) ?_
  refine G.done ?_
  refine G.seq ?_
  refine G.region ?_
  refine G.yld (by decide) (Yld.move rfl) ?_
  refine G.yld (by decide) (Yld.buildS (cs := [_, _]) Try_z57 Try_pl57 rfl rfl (.cons rfl rfl (Nat.le_of_ble_eq_true rfl) (.cons rfl rfl (Nat.le_of_ble_eq_true rfl) .nil)) rfl) ?_
  refine G.opc (by decide) (OpC.buildOne (cs := [_, _]) Try.runUnderlying31 Try.sizeOf57 Try.zeroValue57 rfl rfl rfl rfl (by decide)) fun bg => ?_
  refine G.fold (A := sl true 2 (.slice (some ⟨bg, 0, none⟩) 1 1) 1 (gpc [(2, 2)])) (.imp (.pick (A := cel _ bg _ _) (by repeat (first | with_reducible exact Pick.here | with_reducible apply Pick.there))) (fun r h => sl_row (k := 2) (n := 1) rfl r (by exact h))) ?_
  refine G.yld (by decide) (Yld.buildS (cs := [_, _, _, _, _, _, _, _, _, _, _, _, _, _, _, _, _, _, _]) Try_z36 Try_pl36 rfl rfl (.cons rfl rfl (Nat.le_of_ble_eq_true rfl) (.cons rfl rfl (Nat.le_of_ble_eq_true rfl) (.cons rfl rfl (Nat.le_of_ble_eq_true rfl) .nil))) rfl) ?_
  refine G.opc (by decide) (OpC.call Try.call17 rfl (ack1_spec b (.slice (some ⟨bg, 0, none⟩) 1 1)) (.cons (by repeat (first | with_reducible exact Pick.here | with_reducible apply Pick.there)) (.cons (by repeat (first | with_reducible exact Pick.here | with_reducible apply Pick.there)) .nil))) fun _ => ?_
  refine G.star ?_
  refine G.lift ?_
  rintro rfl
  refine G.opc (by decide) (OpC.alloc (cs := [.int .i64 0, .bool false, .bool false, .int .i64 0, .bool false]) Try.zeroValue59 rfl) fun b3 => ?_
  refine G.op0  (OpC.storeAgg (k := 5) Try.sizeOf59 rfl rfl rfl rfl (by repeat (first | with_reducible exact Pick.here | with_reducible apply Pick.there)) (setWhole rfl) (Nat.le_of_ble_eq_true rfl)) fun _ => ?_
  refine G.done ?_
  refine G.seq ?_
  refine G.region ?_
  refine G.yld (by decide) (Yld.move rfl) ?_
  refine G.yld (by decide) (Yld.buildS (cs := [_, _, _, _, _, _, _, _, _, _, _, _, _, _, _, _, _, _, _]) Try_z36 Try_pl36 rfl rfl (.cons rfl rfl (Nat.le_of_ble_eq_true rfl) (.cons rfl rfl (Nat.le_of_ble_eq_true rfl) .nil)) rfl) ?_
  refine G.fold (A := sl true 2 nilS 0 (gpc [])) (.imp .emp fun _ _ => sl_nil) ?_
  refine G.opc (by decide) (OpC.call Try.call17 rfl (ack2_spec b) (.cons (by repeat (first | with_reducible exact Pick.here | with_reducible apply Pick.there)) (.cons (by repeat (first | with_reducible exact Pick.here | with_reducible apply Pick.there)) .nil))) fun _ => ?_
  refine G.star ?_
  refine G.lift ?_
  rintro rfl
  refine G.opc (by decide) (OpC.alloc (cs := [.int .i64 0, .bool false, .bool false, .int .i64 0, .bool false]) Try.zeroValue59 rfl) fun b4 => ?_
  refine G.op0  (OpC.storeAgg (k := 5) Try.sizeOf59 rfl rfl rfl rfl (by repeat (first | with_reducible exact Pick.here | with_reducible apply Pick.there)) (setWhole rfl) (Nat.le_of_ble_eq_true rfl)) fun _ => ?_
  refine G.done ?_
  refine G.seq ?_
  refine G.region ?_
  refine G.yld (by decide) (Yld.fieldAddr Try_fo36_5 rfl) ?_
  refine G.yld (by decide) (Yld.load rfl Try.isAgg22 (by repeat (first | with_reducible exact Pick.here | with_reducible apply Pick.there)) rfl) ?_
  refine G.yld (by decide) (Yld.eql_u32 (b := (5 : UInt32)) rfl rfl) ?_
  refine G.as (t := 36) (v := .bool true) rfl (congrArg Value.bool (decide_eq_true first1)) ?_
  refine G.yld (by decide) (Yld.move rfl) ?_
  refine G.yldG (by decide) rfl rfl (Yld.fieldAddr Try_fo59_0 rfl) ?_
  refine G.yldG (by decide) rfl rfl (Yld.load rfl Try.isAgg3 (by repeat (first | with_reducible exact Pick.here | with_reducible apply Pick.there)) rfl) ?_
  refine G.yldG (by decide) rfl rfl (Yld.eql_i (b := (3 : Int)) rfl rfl) ?_
  refine G.as (t := 40) (v := .bool true) rfl (congrArg Value.bool (decide_eq_true rfl)) ?_
  refine G.yld (by decide) (Yld.pickT rfl rfl) ?_
  refine G.yld (by decide) (Yld.move rfl) ?_
  refine G.yldG (by decide) rfl rfl (Yld.fieldAddr Try_fo59_1 rfl) ?_
  refine G.yldG (by decide) rfl rfl (Yld.load rfl Try.isAgg4 (by repeat (first | with_reducible exact Pick.here | with_reducible apply Pick.there)) rfl) ?_
  refine G.yld (by decide) (Yld.pickT rfl rfl) ?_
  refine G.yld (by decide) (Yld.move rfl) ?_
  refine G.yldG (by decide) rfl rfl (Yld.fieldAddr Try_fo59_3 rfl) ?_
  refine G.yldG (by decide) rfl rfl (Yld.load rfl Try.isAgg3 (by repeat (first | with_reducible exact Pick.here | with_reducible apply Pick.there)) rfl) ?_
  refine G.yldG (by decide) rfl rfl (Yld.eql_i (b := (4 : Int)) rfl rfl) ?_
  refine G.as (t := 49) (v := .bool true) rfl (congrArg Value.bool (decide_eq_true rfl)) ?_
  refine G.yld (by decide) (Yld.pickT rfl rfl) ?_
  refine G.yld (by decide) (Yld.move rfl) ?_
  refine G.yldG (by decide) rfl rfl (Yld.fieldAddr Try_fo59_4 rfl) ?_
  refine G.yldG (by decide) rfl rfl (Yld.load rfl Try.isAgg4 (by repeat (first | with_reducible exact Pick.here | with_reducible apply Pick.there)) rfl) ?_
  refine G.yldG (by decide) rfl rfl (Yld.not rfl) ?_
  refine G.yld (by decide) (Yld.pickT rfl rfl) ?_
  refine G.yld (by decide) (Yld.move rfl) ?_
  refine G.yldG (by decide) rfl rfl (Yld.fieldAddr Try_fo59_4 rfl) ?_
  refine G.yldG (by decide) rfl rfl (Yld.load rfl Try.isAgg4 (by repeat (first | with_reducible exact Pick.here | with_reducible apply Pick.there)) rfl) ?_
  refine G.yld (by decide) (Yld.pickT rfl rfl) ?_
  refine G.yld (by decide) (Yld.move rfl) ?_
  refine G.yldG (by decide) rfl rfl (Yld.move rfl) ?_
  refine G.opG (by decide) rfl rfl (OpC.call Try.call36 rfl (flBytes_spec b F4 ok4) (.cons (by repeat (first | with_reducible exact Pick.here | with_reducible apply Pick.there)) .nil)) fun _ => ?_
  refine G.star ?_
  refine G.lift ?_
  rintro rfl
  refine G.yldG (by decide) rfl rfl (Yld.eql_i (b := (1 : Int)) rfl rfl) ?_
  refine G.as (t := 63) (v := .bool true) rfl (congrArg Value.bool (decide_eq_true first2)) ?_
  refine G.yld (by decide) (Yld.pickT rfl rfl) ?_
  refine G.yld (by decide) (Yld.move rfl) ?_
  refine G.yldG (by decide) rfl rfl (Yld.move rfl) ?_
  refine G.opG (by decide) rfl rfl (OpC.call Try.call20 rfl (flLeft_spec b F4 (by decide)) (.cons (by repeat (first | with_reducible exact Pick.here | with_reducible apply Pick.there)) .nil)) fun _ => ?_
  refine G.star ?_
  refine G.lift ?_
  rintro rfl
  refine G.yldG (by decide) rfl rfl (Yld.eql_i (b := (1 : Int)) rfl rfl) ?_
  refine G.as (t := 68) (v := .bool true) rfl (congrArg Value.bool (decide_eq_true first3)) ?_
  refine G.yld (by decide) (Yld.pickT rfl rfl) ?_
  refine G.yld (by decide) (Yld.move rfl) ?_
  refine G.yldG (by decide) rfl rfl (Yld.move rfl) ?_
  refine G.opG (by decide) rfl rfl (OpC.call Try.call37 rfl (flNext_spec b F4) (.cons (by repeat (first | with_reducible exact Pick.here | with_reducible apply Pick.there)) .nil)) fun _ => ?_
  refine G.star ?_
  refine G.lift ?_
  rintro rfl
  refine G.yldG (by decide) rfl rfl (Yld.eql_u32 (b := (8 : UInt32)) rfl rfl) ?_
  refine G.as (t := 73) (v := .bool true) rfl (congrArg Value.bool (decide_eq_true first4)) ?_
  refine G.yld (by decide) (Yld.pickT rfl rfl) ?_
  refine G.yld (by decide) (Yld.move rfl) ?_
  refine G.yldG (by decide) rfl rfl (Yld.move rfl) ?_
  refine G.opG (by decide) rfl rfl (OpC.call Try.call38 rfl (flMark_spec b F4) (.cons (by repeat (first | with_reducible exact Pick.here | with_reducible apply Pick.there)) .nil)) fun _ => ?_
  refine G.star ?_
  refine G.lift ?_
  rintro rfl
  refine G.yldG (by decide) rfl rfl (Yld.eql_u32 (b := (5 : UInt32)) rfl rfl) ?_
  refine G.as (t := 78) (v := .bool true) rfl (congrArg Value.bool (decide_eq_true first5)) ?_
  refine G.yld (by decide) (Yld.pickT rfl rfl) ?_
  refine G.yld (by decide) (Yld.assign rfl) ?_
  refine G.done ?_
  refine G.ret ?_
  refine G.ret1 (.inr rfl) Try.results12 (.tmp rfl) ?_
  exact ⟨_, (.lift rfl)⟩
end Go.Fl
