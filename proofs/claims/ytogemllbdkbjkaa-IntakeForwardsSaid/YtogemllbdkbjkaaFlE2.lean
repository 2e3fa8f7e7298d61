/- Contracts, printed by a program of mine and proved by Lean. -/
import Derived.Test.YtogemllbdkbjkaaFlE1
import Derived.Test.YtogemllbdkbjkaaFlD2
set_option linter.unusedVariables false
set_option linter.unusedSimpArgs false
namespace Go.Fl
open Go Go.Sl Go.Proofs
set_option maxRecDepth 10000
set_option linter.unusedVariables false
theorem nData_spec {m0 : Bool} (b : Nat) (s : Sp) (nx : List (Int × Value)) (ms : List Msg) (dups : List UInt32) (c : Ck) (a0 : Option Addr) (c0 : Nat) (body : List UInt8) (hk : c.kind = 64) (hb0 : 0 < body.length) (hb : body.length ≤ 70000) (hsp : s.rows.length < 100000) (hms : ms.length ≤ 1000) (hmb : ∀ m ∈ ms, m.body.length ≤ 70000) (hheld : heldM ms.length ms + (body.length : Int) ≤ 131072) (hgo : (s.add c.tsn).1 = 0 → Goes nx c) : Sl.Spec Try.prog 9 [ptr b, .agg (ckb c (.slice a0 body.length c0)).toArray].toArray [isN b s nx ms dups, sl m0 1 (.slice a0 body.length c0) body.length (byc body)] (fun v => star (lift (v = vI (s.add c.tsn).1)) (ex fun (x : Option Addr × Nat) => star (isN b (s.add c.tsn).2 (nxD s nx c) (msD s ms c (msgOf c x.1 x.2 body)) (dupsP dups (s.add c.tsn).1 c.tsn)) (sl m0 1 (.slice a0 body.length c0) body.length (byc body)))) := by
  refine Sl.Spec.of_body (vs := [ptr b, .agg (ckb c (.slice a0 body.length c0)).toArray]) Try.func9 Try.ntmps9 (Nat.le_of_ble_eq_true rfl) rfl fun w0 F => ?_
  refine G.openN fun bs bj a d => ?_
  refine G.seq ?_
  refine G.region ?_
  refine G.opc (by decide) (OpC.box (cs := [_, _, _, _, _, _, _, _, _, _, _, _, _, _, _, _, _, _, _]) rfl rfl) fun b3 => ?_
  refine G.yld (by decide) (Yld.assign rfl) ?_
  refine G.done ?_
  refine G.seq ?_
  refine G.seq ?_
  refine G.draw Try_mixed (.still 0 (.still 1 (.still 2 (.still 3 (.still 4 (.still 5 (.loud 6 true (.loud 7 false (.loud 8 false (.loud 9 false (.loud 10 false (.loud 11 false (.loud 12 false (.loud 13 false (.done))))))))))))))) (by kernel_rfl) (.cons (show Pick _ (cel true b 76 _) _ from by repeat (first | with_reducible exact Pick.here | with_reducible apply Pick.there)) (.cons (show Pick _ (cel true b3 36 _) _ from by repeat (first | with_reducible exact Pick.here | with_reducible apply Pick.there)) .nil)) ?_
  refine GO.yld (i := 0) rfl (by decide) (Yld.fieldAddr Try_fo36_0 rfl) ?_
  refine GO.yld (i := 1) rfl (by decide) (Yld.load rfl Try.isAgg29 (by repeat (first | with_reducible exact Pick.here | with_reducible apply Pick.there)) rfl) ?_
  refine GO.yld (i := 2) rfl (by decide) (Yld.move rfl) ?_
  refine GO.yld (i := 3) rfl (by decide) (Yld.nilCheck rfl) ?_
  refine GO.yld (i := 4) rfl (by decide) (Yld.fieldAddr Try_fo76_0 rfl) ?_
  refine GO.yld (i := 5) rfl (by decide) (Yld.load rfl Try.isAgg4 (by repeat (first | with_reducible exact Pick.here | with_reducible apply Pick.there)) rfl) ?_
  refine GO.opc (i := 6) rfl (by decide) (OpC.call Try.call25 rfl (nPick_spec 0 64) .nil) (fun _ => (.cons (show Pick _ (cel true b 76 _) _ from by repeat (first | with_reducible exact Pick.here | with_reducible apply Pick.there)) (.cons (show Pick _ (cel true b3 36 _) _ from by repeat (first | with_reducible exact Pick.here | with_reducible apply Pick.there)) .nil))) fun _ => ?_
  refine GO.lift ?_
  rintro rfl
  refine GO.x ?_
  refine GX.yld (i := 7) rfl (by decide) (Yld.neq_u8 rfl rfl) ?_
  refine GX.as (t := 14) (v := .bool false) rfl (congrArg Value.bool (decide_eq_false (not_not_intro hk))) ?_
  refine GX.yld (i := 8) rfl (by decide) (Yld.move rfl) ?_
  refine GX.yldG (i := 9) rfl (by decide) rfl rfl (Yld.fieldAddr Try_fo36_18 rfl) ?_
  refine GX.yldG (i := 10) rfl (by decide) rfl rfl (Yld.load rfl Try.isAgg23 (by repeat (first | with_reducible exact Pick.here | with_reducible apply Pick.there)) rfl) ?_
  refine GX.yldG (i := 11) rfl (by decide) rfl rfl (Yld.len_slice Try.runUnderlying23 rfl) ?_
  refine GX.yldG (i := 12) rfl (by decide) rfl rfl (Yld.eql_i (b := (0 : Int)) rfl rfl) ?_
  refine GX.as (t := 19) (v := .bool false) rfl (congrArg Value.bool (decide_eq_false (by omega))) ?_
  refine GX.yld (i := 13) rfl (by decide) (Yld.pickF rfl rfl) ?_
  refine GX.done ?_
  refine G.condF rfl ?_
  refine G.skip ?_
  refine G.seq ?_
  refine G.draw Try_mixed (.still 0 (.still 1 (.still 2 (.still 3 (.still 5 (.still 6 (.loud 4 true (.loud 7 false (.loud 8 false (.done)))))))))) (by kernel_rfl) (.cons (show Pick _ (cel true b 76 _) _ from by repeat (first | with_reducible exact Pick.here | with_reducible apply Pick.there)) (.cons (show Pick _ (cel true b3 36 _) _ from by repeat (first | with_reducible exact Pick.here | with_reducible apply Pick.there)) .nil)) ?_
  refine GO.yld (i := 0) rfl (by decide) (Yld.move rfl) ?_
  refine GO.yld (i := 1) rfl (by decide) (Yld.nilCheck rfl) ?_
  refine GO.yld (i := 2) rfl (by decide) (Yld.fieldAddr Try_fo76_1 rfl) ?_
  refine GO.yld (i := 3) rfl (by decide) (Yld.load rfl Try.isAgg71 (by repeat (first | with_reducible exact Pick.here | with_reducible apply Pick.there)) rfl) ?_
  refine GO.yld (i := 5) rfl (by decide) (Yld.fieldAddr Try_fo36_5 rfl) ?_
  refine GO.yld (i := 6) rfl (by decide) (Yld.load rfl Try.isAgg22 (by repeat (first | with_reducible exact Pick.here | with_reducible apply Pick.there)) rfl) ?_
  refine GO.opc (i := 4) rfl (by decide) (OpC.call Try.call27 rfl (sMark_spec bs s) (.cons (by repeat (first | with_reducible exact Pick.here | with_reducible apply Pick.there)) .nil)) (fun _ => (.cons (show Pick _ (cel true b 76 _) _ from by repeat (first | with_reducible exact Pick.here | with_reducible apply Pick.there)) (.cons (show Pick _ (cel true b3 36 _) _ from by repeat (first | with_reducible exact Pick.here | with_reducible apply Pick.there)) .nil))) fun _ => ?_
  refine GO.star ?_
  refine GO.lift ?_
  rintro rfl
  refine GO.x ?_
  refine GX.opc (i := 7) rfl (by decide) (OpC.call Try.call26 rfl (dist_spec _ _) .nil) fun v => ?_
  refine GX.lift ?_
  rintro rfl
  refine GX.yld (i := 8) rfl (by decide) (Yld.assign rfl) ?_
  refine GX.done ?_
  refine G.seq ?_
  refine G.seq ?_
  have hhl := heldM_le hmb ms.length (Nat.le_refl _)
  refine G.cutB (t := 62) (v := .bool (decide (False))) (.cons (t := 0) rfl (.cons (t := 3) rfl (.cons (t := 4) rfl .nil))) ?_ ?_
  · refine G.draw Try_mixed (.still 0 (.still 1 (.still 2 (.still 3 (.still 5 (.still 6 (.loud 4 true (.loud 7 true (.loud 8 true (.still 9 (.still 10 (.still 11 (.still 12 (.loud 13 true (.loud 14 true (.loud 15 true (.loud 16 true (.loud 17 true (.loud 18 true (.loud 19 true (.loud 20 true (.loud 21 true (.loud 22 true (.still 23 (.still 24 (.still 25 (.still 26 (.still 28 (.still 29 (.still 30 (.loud 27 true (.loud 31 false (.loud 32 false (.loud 33 false (.done))))))))))))))))))))))))))))))))))) (by kernel_rfl) (.cons (show Pick _ (cel true b 76 _) _ from by repeat (first | with_reducible exact Pick.here | with_reducible apply Pick.there)) (.cons (show Pick _ (cel true b3 36 _) _ from by repeat (first | with_reducible exact Pick.here | with_reducible apply Pick.there)) .nil)) ?_
    refine GO.yld (i := 0) rfl (by decide) (Yld.move rfl) ?_
    refine GO.yld (i := 1) rfl (by decide) (Yld.nilCheck rfl) ?_
    refine GO.yld (i := 2) rfl (by decide) (Yld.fieldAddr Try_fo76_1 rfl) ?_
    refine GO.yld (i := 3) rfl (by decide) (Yld.load rfl Try.isAgg71 (by repeat (first | with_reducible exact Pick.here | with_reducible apply Pick.there)) rfl) ?_
    refine GO.yld (i := 5) rfl (by decide) (Yld.fieldAddr Try_fo36_5 rfl) ?_
    refine GO.yld (i := 6) rfl (by decide) (Yld.load rfl Try.isAgg22 (by repeat (first | with_reducible exact Pick.here | with_reducible apply Pick.there)) rfl) ?_
    refine GO.opc (i := 4) rfl (by decide) (OpC.call Try.call27 rfl (sMark_spec bs s) (.cons (by repeat (first | with_reducible exact Pick.here | with_reducible apply Pick.there)) .nil)) (fun _ => (.cons (show Pick _ (cel true b 76 _) _ from by repeat (first | with_reducible exact Pick.here | with_reducible apply Pick.there)) (.cons (show Pick _ (cel true b3 36 _) _ from by repeat (first | with_reducible exact Pick.here | with_reducible apply Pick.there)) .nil))) fun _ => ?_
    refine GO.star ?_
    refine GO.lift ?_
    rintro rfl
    refine GO.opc (i := 7) rfl (by decide) (OpC.call Try.call28 rfl (less_spec _ _) .nil) (fun _ => (.cons (show Pick _ (cel true b 76 _) _ from by repeat (first | with_reducible exact Pick.here | with_reducible apply Pick.there)) (.cons (show Pick _ (cel true b3 36 _) _ from by repeat (first | with_reducible exact Pick.here | with_reducible apply Pick.there)) .nil))) fun v => ?_
    refine GO.lift ?_
    rintro rfl
    refine GO.lyld (i := 8) rfl (by decide) (Yld.move rfl) ?_
    refine GO.splitX (t := 37) rfl (fun h2 => ?_) (fun h2 => ?_)
    · refine GO.yldG (i := 9) rfl (by decide) rfl rfl (Yld.move rfl) ?_
      refine GO.yldG (i := 10) rfl (by decide) rfl rfl (Yld.nilCheck rfl) ?_
      refine GO.yldG (i := 11) rfl (by decide) rfl rfl (Yld.fieldAddr Try_fo76_1 rfl) ?_
      refine GO.yldG (i := 12) rfl (by decide) rfl rfl (Yld.load rfl Try.isAgg71 (by repeat (first | with_reducible exact Pick.here | with_reducible apply Pick.there)) rfl) ?_
      refine GO.lyldG (i := 13) rfl (by decide) rfl rfl (Yld.fieldAddr Try_fo36_5 rfl) ?_
      refine GO.lyldG (i := 14) rfl (by decide) rfl rfl (Yld.load rfl Try.isAgg22 (by repeat (first | with_reducible exact Pick.here | with_reducible apply Pick.there)) rfl) ?_
      refine GO.opG (i := 15) rfl (by decide) rfl rfl (OpC.call Try.call29 rfl (sHas_spec bs s c.tsn (by omega)) (.cons (by repeat (first | with_reducible exact Pick.here | with_reducible apply Pick.there)) .nil)) (fun _ => (.cons (show Pick _ (cel true b 76 _) _ from by repeat (first | with_reducible exact Pick.here | with_reducible apply Pick.there)) (.cons (show Pick _ (cel true b3 36 _) _ from by repeat (first | with_reducible exact Pick.here | with_reducible apply Pick.there)) .nil))) fun _ => ?_
      refine GO.star ?_
      refine GO.lift ?_
      rintro rfl
      refine GO.lyldG (i := 16) rfl (by decide) rfl rfl (Yld.not rfl) ?_
      refine GO.lyld (i := 17) rfl (by decide) (Yld.pickT rfl rfl) ?_
      refine GO.lyld (i := 18) rfl (by decide) (Yld.move rfl) ?_
      refine GO.splitX (t := 47) rfl (fun h3 => ?_) (fun h3 => ?_)
      · refine GO.lyldG (i := 19) rfl (by decide) rfl rfl (Yld.move rfl) ?_
        refine GO.lyldG (i := 20) rfl (by decide) rfl rfl (Yld.neq_u32 (b := (1 : UInt32)) rfl rfl) ?_
        refine GO.lyld (i := 21) rfl (by decide) (Yld.pickT rfl rfl) ?_
        refine GO.lyld (i := 22) rfl (by decide) (Yld.move rfl) ?_
        refine GO.splitB (t := 51) rfl (fun h4 => ?_) (fun h4 => ?_)
        · refine GO.yldG (i := 23) rfl (by decide) rfl rfl (Yld.move rfl) ?_
          refine GO.yldG (i := 24) rfl (by decide) rfl rfl (Yld.nilCheck rfl) ?_
          refine GO.yldG (i := 25) rfl (by decide) rfl rfl (Yld.fieldAddr Try_fo76_2 rfl) ?_
          refine GO.yldG (i := 26) rfl (by decide) rfl rfl (Yld.load rfl Try.isAgg73 (by repeat (first | with_reducible exact Pick.here | with_reducible apply Pick.there)) rfl) ?_
          refine GO.yldG (i := 28) rfl (by decide) rfl rfl (Yld.fieldAddr Try_fo36_18 rfl) ?_
          refine GO.yldG (i := 29) rfl (by decide) rfl rfl (Yld.load rfl Try.isAgg23 (by repeat (first | with_reducible exact Pick.here | with_reducible apply Pick.there)) rfl) ?_
          refine GO.yldG (i := 30) rfl (by decide) rfl rfl (Yld.len_slice Try.runUnderlying23 rfl) ?_
          refine GO.opG (i := 27) rfl (by decide) rfl rfl (OpC.call Try.call30 rfl (jHeld_spec bj nx ms hmb (by omega)) (.cons (by repeat (first | with_reducible exact Pick.here | with_reducible apply Pick.there)) .nil)) (fun _ => (.cons (show Pick _ (cel true b 76 _) _ from by repeat (first | with_reducible exact Pick.here | with_reducible apply Pick.there)) (.cons (show Pick _ (cel true b3 36 _) _ from by repeat (first | with_reducible exact Pick.here | with_reducible apply Pick.there)) .nil))) fun _ => ?_
          refine GO.star ?_
          refine GO.lift ?_
          rintro rfl
          refine GO.x ?_
          refine GX.yldG (i := 31) rfl (by decide) rfl rfl (Yld.add_i rfl rfl (by omega)) ?_
          refine GX.yldG (i := 32) rfl (by decide) rfl rfl (Yld.gtr_i (b := (131072 : Int)) rfl rfl) ?_
          refine GX.as (t := 61) (v := .bool false) rfl (congrArg Value.bool (decide_eq_false (by omega))) ?_
          refine GX.yld (i := 33) rfl (by decide) (Yld.pickT rfl rfl) ?_
          refine GX.done ?_
          refine G.nil ?_
          exact G.cutEnd (.as (t := 62) rfl (congrArg Value.bool (by simp)) (.cons (t := 0) rfl (.cons (t := 3) rfl (.cons (t := 4) rfl .nil)))) (.cons (by repeat (first | with_reducible exact Pick.here | with_reducible apply Pick.there)) (.cons (by repeat (first | with_reducible exact Pick.here | with_reducible apply Pick.there)) (.cons (by repeat (first | with_reducible exact Pick.here | with_reducible apply Pick.there)) (.cons (by repeat (first | with_reducible exact Pick.here | with_reducible apply Pick.there)) (.cons (by repeat (first | with_reducible exact Pick.here | with_reducible apply Pick.there)) (.cons (by repeat (first | with_reducible exact Pick.here | with_reducible apply Pick.there)) .nil))))))
        · refine GO.skipG (i := 23) rfl (by decide) rfl rfl rfl ?_
          refine GO.skipG (i := 24) rfl (by decide) rfl rfl rfl ?_
          refine GO.skipG (i := 25) rfl (by decide) rfl rfl rfl ?_
          refine GO.skipG (i := 26) rfl (by decide) rfl rfl rfl ?_
          refine GO.skipG (i := 28) rfl (by decide) rfl rfl rfl ?_
          refine GO.skipG (i := 29) rfl (by decide) rfl rfl rfl ?_
          refine GO.skipG (i := 30) rfl (by decide) rfl rfl rfl ?_
          refine GO.lskipG (i := 27) rfl (by decide) rfl rfl rfl ?_
          refine GO.x ?_
          refine GX.skipG (i := 31) rfl (by decide) rfl rfl rfl ?_
          refine GX.skipG (i := 32) rfl (by decide) rfl rfl rfl ?_
          refine GX.yld (i := 33) rfl (by decide) (Yld.pickF rfl rfl) ?_
          refine GX.done ?_
          refine G.nil ?_
          exact G.cutEnd (.as (t := 62) rfl (congrArg Value.bool (by simp)) (.cons (t := 0) rfl (.cons (t := 3) rfl (.cons (t := 4) rfl .nil)))) (.cons (by repeat (first | with_reducible exact Pick.here | with_reducible apply Pick.there)) (.cons (by repeat (first | with_reducible exact Pick.here | with_reducible apply Pick.there)) (.cons (by repeat (first | with_reducible exact Pick.here | with_reducible apply Pick.there)) (.cons (by repeat (first | with_reducible exact Pick.here | with_reducible apply Pick.there)) (.cons (by repeat (first | with_reducible exact Pick.here | with_reducible apply Pick.there)) (.cons (by repeat (first | with_reducible exact Pick.here | with_reducible apply Pick.there)) .nil))))))
      · refine GO.lskipG (i := 19) rfl (by decide) rfl rfl rfl ?_
        refine GO.lskipG (i := 20) rfl (by decide) rfl rfl rfl ?_
        refine GO.lyld (i := 21) rfl (by decide) (Yld.pickF rfl rfl) ?_
        refine GO.lyld (i := 22) rfl (by decide) (Yld.move rfl) ?_
        refine GO.skipG (i := 23) rfl (by decide) rfl rfl rfl ?_
        refine GO.skipG (i := 24) rfl (by decide) rfl rfl rfl ?_
        refine GO.skipG (i := 25) rfl (by decide) rfl rfl rfl ?_
        refine GO.skipG (i := 26) rfl (by decide) rfl rfl rfl ?_
        refine GO.skipG (i := 28) rfl (by decide) rfl rfl rfl ?_
        refine GO.skipG (i := 29) rfl (by decide) rfl rfl rfl ?_
        refine GO.skipG (i := 30) rfl (by decide) rfl rfl rfl ?_
        refine GO.lskipG (i := 27) rfl (by decide) rfl rfl rfl ?_
        refine GO.x ?_
        refine GX.skipG (i := 31) rfl (by decide) rfl rfl rfl ?_
        refine GX.skipG (i := 32) rfl (by decide) rfl rfl rfl ?_
        refine GX.yld (i := 33) rfl (by decide) (Yld.pickF rfl rfl) ?_
        refine GX.done ?_
        refine G.nil ?_
        exact G.cutEnd (.as (t := 62) rfl (congrArg Value.bool (by simp)) (.cons (t := 0) rfl (.cons (t := 3) rfl (.cons (t := 4) rfl .nil)))) (.cons (by repeat (first | with_reducible exact Pick.here | with_reducible apply Pick.there)) (.cons (by repeat (first | with_reducible exact Pick.here | with_reducible apply Pick.there)) (.cons (by repeat (first | with_reducible exact Pick.here | with_reducible apply Pick.there)) (.cons (by repeat (first | with_reducible exact Pick.here | with_reducible apply Pick.there)) (.cons (by repeat (first | with_reducible exact Pick.here | with_reducible apply Pick.there)) (.cons (by repeat (first | with_reducible exact Pick.here | with_reducible apply Pick.there)) .nil))))))
    · refine GO.skipG (i := 9) rfl (by decide) rfl rfl rfl ?_
      refine GO.skipG (i := 10) rfl (by decide) rfl rfl rfl ?_
      refine GO.skipG (i := 11) rfl (by decide) rfl rfl rfl ?_
      refine GO.skipG (i := 12) rfl (by decide) rfl rfl rfl ?_
      refine GO.lskipG (i := 13) rfl (by decide) rfl rfl rfl ?_
      refine GO.lskipG (i := 14) rfl (by decide) rfl rfl rfl ?_
      refine GO.lskipG (i := 15) rfl (by decide) rfl rfl rfl ?_
      refine GO.lskipG (i := 16) rfl (by decide) rfl rfl rfl ?_
      refine GO.lyld (i := 17) rfl (by decide) (Yld.pickF rfl rfl) ?_
      refine GO.lyld (i := 18) rfl (by decide) (Yld.move rfl) ?_
      refine GO.lskipG (i := 19) rfl (by decide) rfl rfl rfl ?_
      refine GO.lskipG (i := 20) rfl (by decide) rfl rfl rfl ?_
      refine GO.lyld (i := 21) rfl (by decide) (Yld.pickF rfl rfl) ?_
      refine GO.lyld (i := 22) rfl (by decide) (Yld.move rfl) ?_
      refine GO.skipG (i := 23) rfl (by decide) rfl rfl rfl ?_
      refine GO.skipG (i := 24) rfl (by decide) rfl rfl rfl ?_
      refine GO.skipG (i := 25) rfl (by decide) rfl rfl rfl ?_
      refine GO.skipG (i := 26) rfl (by decide) rfl rfl rfl ?_
      refine GO.skipG (i := 28) rfl (by decide) rfl rfl rfl ?_
      refine GO.skipG (i := 29) rfl (by decide) rfl rfl rfl ?_
      refine GO.skipG (i := 30) rfl (by decide) rfl rfl rfl ?_
      refine GO.lskipG (i := 27) rfl (by decide) rfl rfl rfl ?_
      refine GO.x ?_
      refine GX.skipG (i := 31) rfl (by decide) rfl rfl rfl ?_
      refine GX.skipG (i := 32) rfl (by decide) rfl rfl rfl ?_
      refine GX.yld (i := 33) rfl (by decide) (Yld.pickF rfl rfl) ?_
      refine GX.done ?_
      refine G.nil ?_
      exact G.cutEnd (.as (t := 62) rfl (congrArg Value.bool (by simp)) (.cons (t := 0) rfl (.cons (t := 3) rfl (.cons (t := 4) rfl .nil)))) (.cons (by repeat (first | with_reducible exact Pick.here | with_reducible apply Pick.there)) (.cons (by repeat (first | with_reducible exact Pick.here | with_reducible apply Pick.there)) (.cons (by repeat (first | with_reducible exact Pick.here | with_reducible apply Pick.there)) (.cons (by repeat (first | with_reducible exact Pick.here | with_reducible apply Pick.there)) (.cons (by repeat (first | with_reducible exact Pick.here | with_reducible apply Pick.there)) (.cons (by repeat (first | with_reducible exact Pick.here | with_reducible apply Pick.there)) .nil))))))
  refine G.condP rfl (fun hx => ?_) (fun hx => ?_)
  · exact hx.elim
  · refine G.skip ?_
    refine G.seq ?_
    refine G.draw Try_mixed (.still 0 (.still 1 (.still 2 (.still 3 (.still 4 (.still 5 (.loud 6 false (.loud 7 false (.done))))))))) (by kernel_rfl) (.cons (show Pick _ (cel true b 76 _) _ from by repeat (first | with_reducible exact Pick.here | with_reducible apply Pick.there)) (.cons (show Pick _ (cel true b3 36 _) _ from by repeat (first | with_reducible exact Pick.here | with_reducible apply Pick.there)) .nil)) ?_
    refine GO.yld (i := 0) rfl (by decide) (Yld.move rfl) ?_
    refine GO.yld (i := 1) rfl (by decide) (Yld.nilCheck rfl) ?_
    refine GO.yld (i := 2) rfl (by decide) (Yld.fieldAddr Try_fo76_1 rfl) ?_
    refine GO.yld (i := 3) rfl (by decide) (Yld.load rfl Try.isAgg71 (by repeat (first | with_reducible exact Pick.here | with_reducible apply Pick.there)) rfl) ?_
    refine GO.yld (i := 4) rfl (by decide) (Yld.fieldAddr Try_fo36_5 rfl) ?_
    refine GO.yld (i := 5) rfl (by decide) (Yld.load rfl Try.isAgg22 (by repeat (first | with_reducible exact Pick.here | with_reducible apply Pick.there)) rfl) ?_
    refine GO.x ?_
    refine GX.opc (i := 6) rfl (by decide) (OpC.call Try.call31 rfl (sAdd_spec bs s c.tsn (by omega)) (.cons (by repeat (first | with_reducible exact Pick.here | with_reducible apply Pick.there)) .nil)) fun _ => ?_
    refine GX.star ?_
    refine GX.lift ?_
    rintro rfl
    refine GX.yld (i := 7) rfl (by decide) (Yld.assign rfl) ?_
    refine GX.done ?_
    refine G.seq ?_
    refine G.seq ?_
    obtain ⟨nw, hnw⟩ : ∃ nw, (s.add c.tsn).1 = nw := ⟨_, rfl⟩
    obtain ⟨s2, hs2⟩ : ∃ s2, (s.add c.tsn).2 = s2 := ⟨_, rfl⟩
    rw [hnw] at hgo ⊢
    rw [hs2]
    simp only [nxD, msD, hnw]
    refine G.region ?_
    refine G.yld (by decide) (Yld.move rfl) ?_
    refine G.done ?_
    refine G.block ?_
    refine G.seq ?_
    refine G.region ?_
    refine G.yld (by decide) (Yld.eql_i (b := (1 : Int)) rfl rfl) ?_
    refine G.yld (by decide) (Yld.assign rfl) ?_
    refine G.done ?_
    refine G.condP rfl (fun h1 => ?_) (fun h1 => ?_)
    · subst h1
      refine G.seq ?_
      refine G.region ?_
      refine G.yld (by decide) (Yld.move rfl) ?_
      refine G.yld (by decide) (Yld.nilCheck rfl) ?_
      refine G.yld (by decide) (Yld.fieldAddr Try_fo76_3 rfl) ?_
      refine G.yld (by decide) (Yld.load rfl Try.isAgg32 (by repeat (first | with_reducible exact Pick.here | with_reducible apply Pick.there)) rfl) ?_
      refine G.yld (by decide) (Yld.len_slice Try.runUnderlying32 rfl) ?_
      refine G.yld (by decide) (Yld.lss_i (b := (16 : Int)) rfl rfl) ?_
      refine G.done ?_
      refine G.condP rfl (fun hd => ?_) (fun hd => ?_)
      · refine G.draw Try_mixed (.still 0 (.still 1 (.still 2 (.still 3 (.still 4 (.still 5 (.still 6 (.loud 7 true (.loud 8 true (.loud 9 false (.loud 10 false (.loud 11 false (.done))))))))))))) (by kernel_rfl) (.cons (show Pick _ (cel true b 76 _) _ from by repeat (first | with_reducible exact Pick.here | with_reducible apply Pick.there)) (.cons (show Pick _ (cel true b3 36 _) _ from by repeat (first | with_reducible exact Pick.here | with_reducible apply Pick.there)) .nil)) ?_
        refine GO.yld (i := 0) rfl (by decide) (Yld.move rfl) ?_
        refine GO.yld (i := 1) rfl (by decide) (Yld.move rfl) ?_
        refine GO.yld (i := 2) rfl (by decide) (Yld.nilCheck rfl) ?_
        refine GO.yld (i := 3) rfl (by decide) (Yld.fieldAddr Try_fo76_3 rfl) ?_
        refine GO.yld (i := 4) rfl (by decide) (Yld.load rfl Try.isAgg32 (by repeat (first | with_reducible exact Pick.here | with_reducible apply Pick.there)) rfl) ?_
        refine GO.yld (i := 5) rfl (by decide) (Yld.fieldAddr Try_fo36_5 rfl) ?_
        refine GO.yld (i := 6) rfl (by decide) (Yld.load rfl Try.isAgg22 (by repeat (first | with_reducible exact Pick.here | with_reducible apply Pick.there)) rfl) ?_
        refine GO.opc (i := 7) rfl (by decide) (OpC.buildOne (cs := [_]) Try.runUnderlying32 Try.sizeOf22 Try.zeroValue22 rfl rfl rfl rfl (by decide)) (fun _ => (.cons (show Pick _ (cel true b 76 _) _ from by repeat (first | with_reducible exact Pick.here | with_reducible apply Pick.there)) (.cons (show Pick _ (cel true b3 36 _) _ from by repeat (first | with_reducible exact Pick.here | with_reducible apply Pick.there)) .nil))) fun bt => ?_
        refine GO.fold (A := sl true 1 (.slice (some ⟨bt, 0, none⟩) 1 1) 1 [vU32 c.tsn]) (.imp (.pick (A := cel _ bt _ _) (by repeat (first | with_reducible exact Pick.here | with_reducible apply Pick.there))) (fun r h => sl_row (k := 1) (n := 1) rfl r (by exact h))) ?_
        refine GO.opc (i := 8) rfl (by decide) (OpC.appendE (kk := 1) (bytes := 4) Try.underlying32 Try.type22 rfl rfl rfl rfl rfl Try.underlying32 rfl rfl (show Pick _ (sl true 1 (.slice a _ _) _ _) _ from by repeat (first | with_reducible exact Pick.here | with_reducible apply Pick.there)) (by repeat (first | with_reducible exact Pick.here | with_reducible apply Pick.there)) rfl (room_of _ _ (by decide) (by omega)) rfl (du_snoc _ _)) (fun _ => (.cons (show Pick _ (cel true b 76 _) _ from by repeat (first | with_reducible exact Pick.here | with_reducible apply Pick.there)) (.cons (show Pick _ (cel true b3 36 _) _ from by repeat (first | with_reducible exact Pick.here | with_reducible apply Pick.there)) .nil))) fun vg => ?_
        refine GO.fact (A := sl true 1 vg _ _) (by repeat (first | with_reducible exact Pick.here | with_reducible apply Pick.there)) sl_cell fun hvg => ?_
        refine GO.x ?_
        refine GX.yld (i := 9) rfl (by decide) (Yld.nilCheck rfl) ?_
        refine GX.yld (i := 10) rfl (by decide) (Yld.fieldAddr Try_fo76_3 rfl) ?_
        refine GX.op0 (i := 11) rfl  (OpC.storeS (.succ (.succ (.succ .zero))) Try.sizeOf32 rfl rfl hvg (by repeat (first | with_reducible exact Pick.here | with_reducible apply Pick.there))) fun _ => ?_
        refine GX.done ?_
        refine G.nil ?_
        refine G.x_block (G.x_then ?_)
        refine G.seq ?_
        refine G.pick (A := sl true 1 vg _ _) (by repeat (first | with_reducible exact Pick.here | with_reducible apply Pick.there)) (G.slv fun a2 d2 hvg2 hlg hcg => ?_)
        subst hvg2
        refine G.region ?_
        refine G.yld (by decide) (Yld.move rfl) ?_
        refine G.yld (by decide) (Yld.assign rfl) ?_
        refine G.done ?_
        refine G.ret ?_
        refine G.ret1 (.inr rfl) Try.results9 (.tmp rfl) ?_
        exact ⟨_, (.star (.lift rfl) (.ex (none, 0) (.star (by rw [if_neg (by decide), if_neg (by decide), dups_ap (by omega)]; exact (entN (a := a2) (c := d2) (.imp (.pick (A := cel true b 76 _) (by repeat (first | with_reducible exact Pick.here | with_reducible apply Pick.there))) (fun r h => by simp only [List.length_append, List.length_singleton]; exact h)) (.pick (by repeat (first | with_reducible exact Pick.here | with_reducible apply Pick.there))) (.pick (by repeat (first | with_reducible exact Pick.here | with_reducible apply Pick.there))) (.imp (.pick (A := sl true 1 (.slice a2 _ _) _ _) (by repeat (first | with_reducible exact Pick.here | with_reducible apply Pick.there))) (fun r h => by simp only [List.length_append, List.length_singleton]; exact h)) rfl rfl)) (.pick (A := sl m0 1 (.slice a0 _ _) _ _) (by repeat (first | with_reducible exact Pick.here | with_reducible apply Pick.there))))))⟩
      · refine G.skip ?_
        refine G.nil ?_
        refine G.x_block (G.x_then ?_)
        refine G.seq ?_
        refine G.region ?_
        refine G.yld (by decide) (Yld.move rfl) ?_
        refine G.yld (by decide) (Yld.assign rfl) ?_
        refine G.done ?_
        refine G.ret ?_
        refine G.ret1 (.inr rfl) Try.results9 (.tmp rfl) ?_
        exact ⟨_, (.star (.lift rfl) (.ex (none, 0) (.star (by rw [if_neg (by decide), if_neg (by decide), dups_no (by omega)]; exact (entN (.pick (by repeat (first | with_reducible exact Pick.here | with_reducible apply Pick.there))) (.pick (by repeat (first | with_reducible exact Pick.here | with_reducible apply Pick.there))) (.pick (by repeat (first | with_reducible exact Pick.here | with_reducible apply Pick.there))) (.pick (by repeat (first | with_reducible exact Pick.here | with_reducible apply Pick.there))) rfl rfl)) (.pick (A := sl m0 1 (.slice a0 _ _) _ _) (by repeat (first | with_reducible exact Pick.here | with_reducible apply Pick.there))))))⟩
    · refine G.seq ?_
      refine G.region ?_
      refine G.yld (by decide) (Yld.eql_i (b := (0 : Int)) rfl rfl) ?_
      refine G.yld (by decide) (Yld.assign rfl) ?_
      refine G.done ?_
      refine G.condP rfl (fun h0 => ?_) (fun h0 => ?_)
      · subst h0
        have hg := hgo rfl
        obtain ⟨q, hn, hq⟩ := hg.next
        refine G.draw Try_mixed (.still 0 (.still 1 (.still 2 (.still 3 (.still 4 (.loud 5 false (.done))))))) (by kernel_rfl) (Picks.refl _) ?_
        refine GO.yld (i := 0) rfl (by decide) (Yld.move rfl) ?_
        refine GO.yld (i := 1) rfl (by decide) (Yld.nilCheck rfl) ?_
        refine GO.yld (i := 2) rfl (by decide) (Yld.fieldAddr Try_fo76_2 rfl) ?_
        refine GO.yld (i := 3) rfl (by decide) (Yld.load rfl Try.isAgg73 (by repeat (first | with_reducible exact Pick.here | with_reducible apply Pick.there)) rfl) ?_
        refine GO.yld (i := 4) rfl (by decide) (Yld.loadAgg (cs := [_, _, _, _, _, _, _, _, _, _, _, _, _, _, _, _, _, _, _]) rfl Try.isAgg36 Try.sizeOf36 (by repeat (first | with_reducible exact Pick.here | with_reducible apply Pick.there)) rfl (aggAt rfl)) ?_
        refine GO.x ?_
        refine GX.opc (i := 5) rfl (by decide) (OpC.call Try.call32 rfl (jPut_spec (m0 := m0) bj nx ms c a0 c0 body q hk hg.beg hg.fin hg.frag hb0 hb (by omega) hn hq) (.cons (show Pick _ (isJ bj _ _) _ from by repeat (first | with_reducible exact Pick.here | with_reducible apply Pick.there)) (.cons (show Pick _ (sl m0 1 (.slice a0 _ _) _ _) _ from by repeat (first | with_reducible exact Pick.here | with_reducible apply Pick.there)) .nil))) fun _ => ?_
        refine GX.star ?_
        refine GX.lift ?_
        rintro rfl
        refine GX.ex fun x => ?_
        refine GX.star ?_
        obtain ⟨ma, mc⟩ := x
        refine GX.done ?_
        refine G.nil ?_
        refine G.x_block (G.x_then ?_)
        refine G.seq ?_
        refine G.region ?_
        refine G.yld (by decide) (Yld.move rfl) ?_
        refine G.yld (by decide) (Yld.assign rfl) ?_
        refine G.done ?_
        refine G.ret ?_
        refine G.ret1 (.inr rfl) Try.results9 (.tmp rfl) ?_
        exact ⟨_, (.star (.lift rfl) (.ex (ma, mc) (.star (by rw [if_pos rfl, if_pos rfl, show dupsP dups 0 c.tsn = dups by simp [dupsP]]; exact (entN (.pick (by repeat (first | with_reducible exact Pick.here | with_reducible apply Pick.there))) (.pick (by repeat (first | with_reducible exact Pick.here | with_reducible apply Pick.there))) (.pick (by repeat (first | with_reducible exact Pick.here | with_reducible apply Pick.there))) (.pick (by repeat (first | with_reducible exact Pick.here | with_reducible apply Pick.there))) rfl rfl)) (.pick (A := sl m0 1 (.slice a0 _ _) _ _) (by repeat (first | with_reducible exact Pick.here | with_reducible apply Pick.there))))))⟩
      · refine G.skip ?_
        refine G.nil ?_
        refine G.x_block (G.x_then ?_)
        refine G.seq ?_
        refine G.region ?_
        refine G.yld (by decide) (Yld.move rfl) ?_
        refine G.yld (by decide) (Yld.assign rfl) ?_
        refine G.done ?_
        refine G.ret ?_
        refine G.ret1 (.inr rfl) Try.results9 (.tmp rfl) ?_
        exact ⟨_, (.star (.lift rfl) (.ex (none, 0) (.star (by rw [if_neg h0, if_neg h0, show dupsP dups nw c.tsn = dups by simp [dupsP, h1]]; exact (entN (.pick (by repeat (first | with_reducible exact Pick.here | with_reducible apply Pick.there))) (.pick (by repeat (first | with_reducible exact Pick.here | with_reducible apply Pick.there))) (.pick (by repeat (first | with_reducible exact Pick.here | with_reducible apply Pick.there))) (.pick (by repeat (first | with_reducible exact Pick.here | with_reducible apply Pick.there))) rfl rfl)) (.pick (A := sl m0 1 (.slice a0 _ _) _ _) (by repeat (first | with_reducible exact Pick.here | with_reducible apply Pick.there))))))⟩
end Go.Fl
