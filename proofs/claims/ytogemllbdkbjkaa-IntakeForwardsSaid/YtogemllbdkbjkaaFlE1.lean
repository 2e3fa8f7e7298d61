/- Contracts, printed by a program of mine and proved by Lean. -/
import Derived.Test.YtogemllbdkbjkaaFlInF
import Derived.Test.YtogemllbdkbjkaaFlD5
import Derived.Test.YtogemllbdkbjkaaFlC3
set_option linter.unusedVariables false
set_option linter.unusedSimpArgs false
namespace Go.Fl
open Go Go.Sl Go.Proofs
set_option maxRecDepth 10000
set_option linter.unusedVariables false
theorem nPick_spec (p o : UInt8) : Sl.Spec Try.prog 25 [.bool true, vU8 p, vU8 o].toArray [] (fun v => lift (v = vU8 o)) := by
  refine Sl.Spec.of_body (vs := [.bool true, vU8 p, vU8 o]) Try.func25 Try.ntmps25 (Nat.le_of_ble_eq_true rfl) rfl fun w0 F => ?_
  refine G.seq ?_
  refine G.region ?_
  refine G.yld (by decide) (Yld.assign rfl) ?_
  refine G.done ?_
  refine G.seq ?_
  refine G.seq ?_
  refine G.region ?_
  refine G.yld (by decide) (Yld.move rfl) ?_
  refine G.done ?_
  refine G.condT rfl ?_
  refine G.seq ?_
  refine G.region ?_
  refine G.yld (by decide) (Yld.move rfl) ?_
  refine G.yld (by decide) (Yld.assign rfl) ?_
  refine G.done ?_
  refine G.ret ?_
  refine G.ret1 (.inr rfl) Try.results25 (.tmp rfl) ?_
  exact ⟨_, (.lift rfl)⟩
theorem nNew_spec (m : UInt32) : Sl.Spec Try.prog 8 [vU32 m, .bool true].toArray [] (fun v => ex fun b => star (lift (v = ptr b)) (isN b ⟨m, []⟩ [] [] [])) := by
  refine Sl.Spec.of_body (vs := [vU32 m, .bool true]) Try.func8 Try.ntmps8 (Nat.le_of_ble_eq_true rfl) rfl fun w0 F => ?_
  refine G.seq ?_
  refine G.region ?_
  refine G.yld (by decide) (Yld.assign rfl) ?_
  refine G.done ?_
  refine G.seq ?_
  refine G.region ?_
  refine G.yld (by decide) (Yld.move rfl) ?_
  refine G.yld (by decide) (Yld.move rfl) ?_
  refine G.opc (by decide) (OpC.call Try.call23 rfl (sNew_spec m) .nil) fun _ => ?_
  refine G.ex fun bs => ?_
  refine G.star ?_
  refine G.lift ?_
  rintro rfl
  refine G.yld (by decide) (Yld.move rfl) ?_
  refine G.opc (by decide) (OpC.call Try.call24 rfl jNew_spec .nil) fun _ => ?_
  refine G.ex fun bj => ?_
  refine G.star ?_
  refine G.lift ?_
  rintro rfl
  refine G.yld (by decide) (Yld.buildS (cs := [_, _, _, _]) Try_z76 Try_pl76 rfl rfl (.cons rfl rfl (Nat.le_of_ble_eq_true rfl) (.cons rfl rfl (Nat.le_of_ble_eq_true rfl) (.cons rfl rfl (Nat.le_of_ble_eq_true rfl) .nil))) rfl) ?_
  refine G.opc (by decide) (OpC.box (cs := [_, _, _, _]) rfl rfl) fun bn => ?_
  refine G.yld (by decide) (Yld.assign rfl) ?_
  refine G.done ?_
  refine G.ret ?_
  refine G.ret1 (.inr rfl) Try.results8 (.tmp rfl) ?_
  exact ⟨_, (.ex bn (.star (.lift rfl) (entN (bs := bs) (bj := bj) (a := none) (c := 0) (.imp (.pick (A := cel true bn 76 _) (by repeat (first | with_reducible exact Pick.here | with_reducible apply Pick.there))) (fun r h => by exact h)) (.pick (by repeat (first | with_reducible exact Pick.here | with_reducible apply Pick.there))) (.pick (by repeat (first | with_reducible exact Pick.here | with_reducible apply Pick.there))) (.imp .emp fun _ _ => sl_nil) rfl rfl)))⟩
theorem nMark_spec (b : Nat) (s : Sp) (nx : List (Int × Value)) (ms : List Msg) (dups : List UInt32) : Sl.Spec Try.prog 10 [ptr b].toArray [isN b s nx ms dups] (fun v => star (lift (v = vU32 s.mark)) (isN b s nx ms dups)) := by
  refine Sl.Spec.of_body (vs := [ptr b]) Try.func10 Try.ntmps10 (Nat.le_of_ble_eq_true rfl) rfl fun w0 F => ?_
  refine G.openN fun bs bj a c => ?_
  refine G.seq ?_
  refine G.region ?_
  refine G.yld (by decide) (Yld.assign rfl) ?_
  refine G.done ?_
  refine G.seq ?_
  refine G.region ?_
  refine G.yld (by decide) (Yld.move rfl) ?_
  refine G.yld (by decide) (Yld.nilCheck rfl) ?_
  refine G.yld (by decide) (Yld.fieldAddr Try_fo76_1 rfl) ?_
  refine G.yld (by decide) (Yld.load rfl Try.isAgg71 (by repeat (first | with_reducible exact Pick.here | with_reducible apply Pick.there)) rfl) ?_
  refine G.opc (by decide) (OpC.call Try.call27 rfl (sMark_spec bs s) (.cons (by repeat (first | with_reducible exact Pick.here | with_reducible apply Pick.there)) .nil)) fun _ => ?_
  refine G.star ?_
  refine G.lift ?_
  rintro rfl
  refine G.yld (by decide) (Yld.assign rfl) ?_
  refine G.done ?_
  refine G.ret ?_
  refine G.ret1 (.inr rfl) Try.results10 (.tmp rfl) ?_
  exact ⟨_, (.star (.lift rfl) (entN (.pick (by repeat (first | with_reducible exact Pick.here | with_reducible apply Pick.there))) (.pick (by repeat (first | with_reducible exact Pick.here | with_reducible apply Pick.there))) (.pick (by repeat (first | with_reducible exact Pick.here | with_reducible apply Pick.there))) (.pick (by repeat (first | with_reducible exact Pick.here | with_reducible apply Pick.there))) rfl rfl))⟩
theorem nTake_spec (b : Nat) (s : Sp) (nx : List (Int × Value)) (m : Msg) (ms : List Msg) (dups : List UInt32) : Sl.Spec Try.prog 22 [ptr b].toArray [isN b s nx (m :: ms) dups] (fun v => star (lift (v = .tuple #[.agg (msgv m).toArray, .bool true])) (star (isN b s nx ms dups) (isB m))) := by
  refine Sl.Spec.of_body (vs := [ptr b]) Try.func22 Try.ntmps22 (Nat.le_of_ble_eq_true rfl) rfl fun w0 F => ?_
  refine G.openN fun bs bj a c => ?_
  refine G.seq ?_
  refine G.region ?_
  refine G.opc (by decide) (OpC.alloc (cs := [.int .u16 0, .bool false, .int .u32 0, .int .u32 0, .slice none 0 0]) Try.zeroValue68 rfl) fun b1 => ?_
  refine G.yld (by decide) (Yld.assign rfl) ?_
  refine G.done ?_
  refine G.seq ?_
  refine G.region ?_
  refine G.yld (by decide) (Yld.move rfl) ?_
  refine G.yld (by decide) (Yld.nilCheck rfl) ?_
  refine G.yld (by decide) (Yld.fieldAddr Try_fo76_2 rfl) ?_
  refine G.yld (by decide) (Yld.load rfl Try.isAgg73 (by repeat (first | with_reducible exact Pick.here | with_reducible apply Pick.there)) rfl) ?_
  refine G.opc (by decide) (OpC.call Try.call53 rfl (jTake_spec bj nx m ms) (.cons (by repeat (first | with_reducible exact Pick.here | with_reducible apply Pick.there)) .nil)) fun _ => ?_
  refine G.star ?_
  refine G.lift ?_
  rintro rfl
  refine G.star ?_
  refine G.yld (by decide) (Yld.extract rfl rfl) ?_
  refine G.yld (by decide) (Yld.extract rfl rfl) ?_
  refine G.op0  (OpC.storeAgg (k := 5) Try.sizeOf68 rfl rfl rfl rfl (by repeat (first | with_reducible exact Pick.here | with_reducible apply Pick.there)) (setWhole rfl) (Nat.le_of_ble_eq_true rfl)) fun _ => ?_
  refine G.yld (by decide) (Yld.assign rfl) ?_
  refine G.done ?_
  refine G.ret ?_
  refine G.ret2 (.inr rfl) Try.results22 (.agg (cs := [_, _, _, _, _]) rfl Try.isAgg68 Try.sizeOf68 (by repeat (first | with_reducible exact Pick.here | with_reducible apply Pick.there)) rfl (aggAt rfl)) (.tmp rfl) ?_
  exact ⟨_, (.star (.lift rfl) (.star (entN (.pick (by repeat (first | with_reducible exact Pick.here | with_reducible apply Pick.there))) (.pick (by repeat (first | with_reducible exact Pick.here | with_reducible apply Pick.there))) (.pick (by repeat (first | with_reducible exact Pick.here | with_reducible apply Pick.there))) (.pick (by repeat (first | with_reducible exact Pick.here | with_reducible apply Pick.there))) rfl rfl) (.pick (by repeat (first | with_reducible exact Pick.here | with_reducible apply Pick.there)))))⟩
theorem nForward_spec (b : Nat) (s : Sp) (nx : List (Int × Value)) (ms : List Msg) (dups : List UInt32) (c : Ck) (hsp : s.rows.length < 1000000) : Sl.Spec Try.prog 11 [ptr b, .agg (ckv c nilS nilS nilS nilS nilS).toArray].toArray [isN b s nx ms dups] (fun v => star (lift (v = .bool (fwdB s c))) (isN b (fwdS s c) nx ms dups)) := by
  refine Sl.Spec.of_body (vs := [ptr b, .agg (ckv c nilS nilS nilS nilS nilS).toArray]) Try.func11 Try.ntmps11 (Nat.le_of_ble_eq_true rfl) rfl fun w0 F => ?_
  refine G.openN fun bs bj a d => ?_
  refine G.seq ?_
  refine G.region ?_
  refine G.opc (by decide) (OpC.box (cs := [_, _, _, _, _, _, _, _, _, _, _, _, _, _, _, _, _, _, _]) rfl rfl) fun b3 => ?_
  refine G.yld (by decide) (Yld.assign rfl) ?_
  refine G.done ?_
  refine G.seq ?_
  refine G.seq ?_
  by_cases hk : c.kind = 194
  · refine G.draw Try_mixed (.still 0 (.still 1 (.still 2 (.still 3 (.still 4 (.still 5 (.loud 6 true (.loud 7 true (.loud 8 true (.still 9 (.still 10 (.still 11 (.still 12 (.still 14 (.still 15 (.loud 13 true (.loud 16 false (.loud 17 false (.loud 18 false (.done)))))))))))))))))))) (by kernel_rfl) (.cons (show Pick _ (cel true b 76 _) _ from by repeat (first | with_reducible exact Pick.here | with_reducible apply Pick.there)) (.cons (show Pick _ (cel true b3 36 _) _ from by repeat (first | with_reducible exact Pick.here | with_reducible apply Pick.there)) .nil)) ?_
    refine GO.yld (i := 0) rfl (by decide) (Yld.fieldAddr Try_fo36_0 rfl) ?_
    refine GO.yld (i := 1) rfl (by decide) (Yld.load rfl Try.isAgg29 (by repeat (first | with_reducible exact Pick.here | with_reducible apply Pick.there)) rfl) ?_
    refine GO.yld (i := 2) rfl (by decide) (Yld.move rfl) ?_
    refine GO.yld (i := 3) rfl (by decide) (Yld.nilCheck rfl) ?_
    refine GO.yld (i := 4) rfl (by decide) (Yld.fieldAddr Try_fo76_0 rfl) ?_
    refine GO.yld (i := 5) rfl (by decide) (Yld.load rfl Try.isAgg4 (by repeat (first | with_reducible exact Pick.here | with_reducible apply Pick.there)) rfl) ?_
    refine GO.opc (i := 6) rfl (by decide) (OpC.call Try.call25 rfl (nPick_spec 192 194) .nil) (fun _ => (.cons (show Pick _ (cel true b 76 _) _ from by repeat (first | with_reducible exact Pick.here | with_reducible apply Pick.there)) (.cons (show Pick _ (cel true b3 36 _) _ from by repeat (first | with_reducible exact Pick.here | with_reducible apply Pick.there)) .nil))) fun _ => ?_
    refine GO.lift ?_
    rintro rfl
    refine GO.lyld (i := 7) rfl (by decide) (Yld.neq_u8 rfl rfl) ?_
    refine GO.as (t := 14) (v := .bool false) rfl (congrArg Value.bool (decide_eq_false (not_not_intro hk))) ?_
    refine GO.lyld (i := 8) rfl (by decide) (Yld.move rfl) ?_
    refine GO.yldG (i := 9) rfl (by decide) rfl rfl (Yld.move rfl) ?_
    refine GO.yldG (i := 10) rfl (by decide) rfl rfl (Yld.nilCheck rfl) ?_
    refine GO.yldG (i := 11) rfl (by decide) rfl rfl (Yld.fieldAddr Try_fo76_1 rfl) ?_
    refine GO.yldG (i := 12) rfl (by decide) rfl rfl (Yld.load rfl Try.isAgg71 (by repeat (first | with_reducible exact Pick.here | with_reducible apply Pick.there)) rfl) ?_
    refine GO.yldG (i := 14) rfl (by decide) rfl rfl (Yld.fieldAddr Try_fo36_5 rfl) ?_
    refine GO.yldG (i := 15) rfl (by decide) rfl rfl (Yld.load rfl Try.isAgg22 (by repeat (first | with_reducible exact Pick.here | with_reducible apply Pick.there)) rfl) ?_
    refine GO.opG (i := 13) rfl (by decide) rfl rfl (OpC.call Try.call27 rfl (sMark_spec bs s) (.cons (by repeat (first | with_reducible exact Pick.here | with_reducible apply Pick.there)) .nil)) (fun _ => (.cons (show Pick _ (cel true b 76 _) _ from by repeat (first | with_reducible exact Pick.here | with_reducible apply Pick.there)) (.cons (show Pick _ (cel true b3 36 _) _ from by repeat (first | with_reducible exact Pick.here | with_reducible apply Pick.there)) .nil))) fun _ => ?_
    refine GO.star ?_
    refine GO.lift ?_
    rintro rfl
    refine GO.x ?_
    refine GX.opG (i := 16) rfl (by decide) rfl rfl (OpC.call Try.call28 rfl (less_spec _ _) .nil) fun v => ?_
    refine GX.lift ?_
    rintro rfl
    refine GX.yldG (i := 17) rfl (by decide) rfl rfl (Yld.not rfl) ?_
    refine GX.yld (i := 18) rfl (by decide) (Yld.pickF rfl rfl) ?_
    refine GX.done ?_
    refine G.cond rfl (fun hl => ?_) (fun hl => ?_)
    · have hl2 : less s.mark c.tsn = false := by simpa using hl
      have hf : fwdB s c = false := by simp [fwdB, hl2]
      refine G.seq ?_
      refine G.region ?_
      refine G.yld (by decide) (Yld.assign rfl) ?_
      refine G.done ?_
      refine G.ret ?_
      refine G.ret1 (.inr rfl) Try.results11 (.tmp rfl) ?_
      exact ⟨_, (by rw [hf, show fwdS s c = s by simp [fwdS, hf]]; exact (.star (.lift rfl) (entN (.pick (by repeat (first | with_reducible exact Pick.here | with_reducible apply Pick.there))) (.pick (by repeat (first | with_reducible exact Pick.here | with_reducible apply Pick.there))) (.pick (by repeat (first | with_reducible exact Pick.here | with_reducible apply Pick.there))) (.pick (by repeat (first | with_reducible exact Pick.here | with_reducible apply Pick.there))) rfl rfl)))⟩
    · have hl2 : less s.mark c.tsn = true := by simpa using hl
      have hf : fwdB s c = true := by simp [fwdB, hk, hl2]
      refine G.skip ?_
      refine G.seq ?_
      refine G.seq ?_
      refine G.region ?_
      refine G.yld (by decide) (Yld.fieldAddr Try_fo36_16 rfl) ?_
      refine G.yld (by decide) (Yld.load rfl Try.isAgg33 (by repeat (first | with_reducible exact Pick.here | with_reducible apply Pick.there)) rfl) ?_
      refine G.yld (by decide) (Yld.len_slice Try.runUnderlying33 rfl) ?_
      refine G.yld (by decide) (Yld.move rfl) ?_
      refine G.done ?_
      refine G.block ?_
      refine G.loopE (X := Unit) (fun _ => [(0, ptr b), (3, ptr b3), (28, vI ((0 : Nat) : Int)), (29, vI 0)]) (fun _ => [ncel b bs bj (.slice a dups.length d), isS bs s, isJ bj nx ms, sl true 1 (.slice a dups.length d) dups.length (du dups), cel true b3 36 (ckv c nilS nilS nilS nilS nilS)]) (fun _ => 0) () (.cons (t := 0) rfl (.cons (t := 3) rfl (.cons (t := 28) rfl (.cons (t := 29) rfl .nil)))) (.cons (.pick (A := cel true b 76 _) (by repeat (first | with_reducible exact Pick.here | with_reducible apply Pick.there))) (.cons (.pick (by repeat (first | with_reducible exact Pick.here | with_reducible apply Pick.there))) (.cons (.pick (by repeat (first | with_reducible exact Pick.here | with_reducible apply Pick.there))) (.cons (.pick (A := sl true 1 _ _ _) (by repeat (first | with_reducible exact Pick.here | with_reducible apply Pick.there))) (.cons (.imp (.pick (A := cel true b3 36 _) (by repeat (first | with_reducible exact Pick.here | with_reducible apply Pick.there))) (fun r h => by exact h)) .nil))))) fun _ => ?_
      refine G.seq ?_
      refine G.region ?_
      refine G.yld (by decide) (Yld.lss_i rfl rfl) ?_
      refine G.done ?_
      refine G.seq ?_
      refine G.condP rfl (fun hlt => ?_) (fun hlt => ?_)
      · exact absurd hlt (by simp)
      · refine G.exit ?_
        refine G.x_exit_then (G.x_exit_then ?_)
        refine G.x_exit_block (G.x_then ?_)
        refine G.unframe (by repeat (first | exact App.nil | apply App.cons)) ?_
        refine G.seq ?_
        refine G.draw Try_mixed (.still 0 (.still 1 (.still 2 (.still 3 (.still 4 (.still 5 (.loud 6 false (.done)))))))) (by kernel_rfl) (.cons (show Pick _ (cel true b 76 _) _ from by repeat (first | with_reducible exact Pick.here | with_reducible apply Pick.there)) (.cons (show Pick _ (cel true b3 36 _) _ from by repeat (first | with_reducible exact Pick.here | with_reducible apply Pick.there)) .nil)) ?_
        refine GO.yld (i := 0) rfl (by decide) (Yld.move rfl) ?_
        refine GO.yld (i := 1) rfl (by decide) (Yld.nilCheck rfl) ?_
        refine GO.yld (i := 2) rfl (by decide) (Yld.fieldAddr Try_fo76_2 rfl) ?_
        refine GO.yld (i := 3) rfl (by decide) (Yld.load rfl Try.isAgg73 (by repeat (first | with_reducible exact Pick.here | with_reducible apply Pick.there)) rfl) ?_
        refine GO.yld (i := 4) rfl (by decide) (Yld.fieldAddr Try_fo36_5 rfl) ?_
        refine GO.yld (i := 5) rfl (by decide) (Yld.load rfl Try.isAgg22 (by repeat (first | with_reducible exact Pick.here | with_reducible apply Pick.there)) rfl) ?_
        refine GO.x ?_
        refine GX.opc (i := 6) rfl (by decide) (OpC.call Try.call34 rfl (jPass_spec bj nx ms c.tsn) (.cons (by repeat (first | with_reducible exact Pick.here | with_reducible apply Pick.there)) .nil)) fun _ => ?_
        refine GX.done ?_
        refine G.seq ?_
        refine G.draw Try_mixed (.still 0 (.still 1 (.still 2 (.still 3 (.still 4 (.still 5 (.loud 6 false (.loud 7 false (.done))))))))) (by kernel_rfl) (.cons (show Pick _ (cel true b 76 _) _ from by repeat (first | with_reducible exact Pick.here | with_reducible apply Pick.there)) (.cons (show Pick _ (cel true b3 36 _) _ from by repeat (first | with_reducible exact Pick.here | with_reducible apply Pick.there)) .nil)) ?_
        refine GO.yld (i := 0) rfl (by decide) (Yld.move rfl) ?_
        refine GO.yld (i := 1) rfl (by decide) (Yld.nilCheck rfl) ?_
        refine GO.yld (i := 2) rfl (by decide) (Yld.fieldAddr Try_fo76_1 rfl) ?_
        refine GO.yld (i := 3) rfl (by decide) (Yld.load rfl Try.isAgg71 (by repeat (first | with_reducible exact Pick.here | with_reducible apply Pick.there)) rfl) ?_
        refine GO.yld (i := 4) rfl (by decide) (Yld.fieldAddr Try_fo36_5 rfl) ?_
        refine GO.yld (i := 5) rfl (by decide) (Yld.load rfl Try.isAgg22 (by repeat (first | with_reducible exact Pick.here | with_reducible apply Pick.there)) rfl) ?_
        refine GO.x ?_
        refine GX.opc (i := 6) rfl (by decide) (OpC.call Try.call35 rfl (sSkip_spec bs s c.tsn hsp) (.cons (by repeat (first | with_reducible exact Pick.here | with_reducible apply Pick.there)) .nil)) fun _ => ?_
        refine GX.star ?_
        refine GX.lift ?_
        rintro rfl
        refine GX.yld (i := 7) rfl (by decide) (Yld.assign rfl) ?_
        refine GX.done ?_
        refine G.ret ?_
        refine G.ret1 (.inr rfl) Try.results11 (.tmp rfl) ?_
        exact ⟨_, (by rw [hf, show fwdS s c = (s.skip c.tsn).2 by simp [fwdS, hf]]; exact (.star (.lift (by rw [skip_on hl2])) (entN (.pick (by repeat (first | with_reducible exact Pick.here | with_reducible apply Pick.there))) (.pick (by repeat (first | with_reducible exact Pick.here | with_reducible apply Pick.there))) (.pick (by repeat (first | with_reducible exact Pick.here | with_reducible apply Pick.there))) (.pick (by repeat (first | with_reducible exact Pick.here | with_reducible apply Pick.there))) rfl rfl)))⟩
  · refine G.draw Try_mixed (.still 0 (.still 1 (.still 2 (.still 3 (.still 4 (.still 5 (.loud 6 true (.loud 7 true (.loud 8 true (.still 9 (.still 10 (.still 11 (.still 12 (.still 14 (.still 15 (.loud 13 true (.loud 16 false (.loud 17 false (.loud 18 false (.done)))))))))))))))))))) (by kernel_rfl) (.cons (show Pick _ (cel true b 76 _) _ from by repeat (first | with_reducible exact Pick.here | with_reducible apply Pick.there)) (.cons (show Pick _ (cel true b3 36 _) _ from by repeat (first | with_reducible exact Pick.here | with_reducible apply Pick.there)) .nil)) ?_
    refine GO.yld (i := 0) rfl (by decide) (Yld.fieldAddr Try_fo36_0 rfl) ?_
    refine GO.yld (i := 1) rfl (by decide) (Yld.load rfl Try.isAgg29 (by repeat (first | with_reducible exact Pick.here | with_reducible apply Pick.there)) rfl) ?_
    refine GO.yld (i := 2) rfl (by decide) (Yld.move rfl) ?_
    refine GO.yld (i := 3) rfl (by decide) (Yld.nilCheck rfl) ?_
    refine GO.yld (i := 4) rfl (by decide) (Yld.fieldAddr Try_fo76_0 rfl) ?_
    refine GO.yld (i := 5) rfl (by decide) (Yld.load rfl Try.isAgg4 (by repeat (first | with_reducible exact Pick.here | with_reducible apply Pick.there)) rfl) ?_
    refine GO.opc (i := 6) rfl (by decide) (OpC.call Try.call25 rfl (nPick_spec 192 194) .nil) (fun _ => (.cons (show Pick _ (cel true b 76 _) _ from by repeat (first | with_reducible exact Pick.here | with_reducible apply Pick.there)) (.cons (show Pick _ (cel true b3 36 _) _ from by repeat (first | with_reducible exact Pick.here | with_reducible apply Pick.there)) .nil))) fun _ => ?_
    refine GO.lift ?_
    rintro rfl
    refine GO.lyld (i := 7) rfl (by decide) (Yld.neq_u8 rfl rfl) ?_
    refine GO.as (t := 14) (v := .bool true) rfl (congrArg Value.bool (decide_eq_true hk)) ?_
    refine GO.lyld (i := 8) rfl (by decide) (Yld.move rfl) ?_
    refine GO.skipG (i := 9) rfl (by decide) rfl rfl rfl ?_
    refine GO.skipG (i := 10) rfl (by decide) rfl rfl rfl ?_
    refine GO.skipG (i := 11) rfl (by decide) rfl rfl rfl ?_
    refine GO.skipG (i := 12) rfl (by decide) rfl rfl rfl ?_
    refine GO.skipG (i := 14) rfl (by decide) rfl rfl rfl ?_
    refine GO.skipG (i := 15) rfl (by decide) rfl rfl rfl ?_
    refine GO.lskipG (i := 13) rfl (by decide) rfl rfl rfl ?_
    refine GO.x ?_
    refine GX.skipG (i := 16) rfl (by decide) rfl rfl rfl ?_
    refine GX.skipG (i := 17) rfl (by decide) rfl rfl rfl ?_
    refine GX.yld (i := 18) rfl (by decide) (Yld.pickT rfl rfl) ?_
    refine GX.done ?_
    refine G.condT rfl ?_
    have hf : fwdB s c = false := by simp [fwdB, hk]
    refine G.seq ?_
    refine G.region ?_
    refine G.yld (by decide) (Yld.assign rfl) ?_
    refine G.done ?_
    refine G.ret ?_
    refine G.ret1 (.inr rfl) Try.results11 (.tmp rfl) ?_
    exact ⟨_, (by rw [hf, show fwdS s c = s by simp [fwdS, hf]]; exact (.star (.lift rfl) (entN (.pick (by repeat (first | with_reducible exact Pick.here | with_reducible apply Pick.there))) (.pick (by repeat (first | with_reducible exact Pick.here | with_reducible apply Pick.there))) (.pick (by repeat (first | with_reducible exact Pick.here | with_reducible apply Pick.there))) (.pick (by repeat (first | with_reducible exact Pick.here | with_reducible apply Pick.there))) rfl rfl)))⟩
end Go.Fl
