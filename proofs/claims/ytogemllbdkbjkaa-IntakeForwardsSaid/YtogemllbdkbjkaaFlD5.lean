/- Contracts, printed by a program of mine and proved by Lean. -/
import Derived.Test.YtogemllbdkbjkaaFlD4
set_option linter.unusedVariables false
set_option linter.unusedSimpArgs false
namespace Go.Fl
open Go Go.Sl Go.Proofs
set_option maxRecDepth 10000
set_option linter.unusedVariables false
theorem jPut_spec {m0 : Bool} (b : Nat) (nx : List (Int × Value)) (ms : List Msg) (c : Ck) (a0 : Option Addr) (c0 : Nat) (body : List UInt8) (q : UInt32) (hk : c.kind = 64) (hbeg : c.beg = true) (hfin : c.fin = true) (hfrag : c.frag = 0) (hb0 : 0 < body.length) (hb : body.length ≤ 70000) (hsm : ms.length ≤ 1000000) (hn : nextOf nx c.stream q) (hq : c.loose = true ∨ (c.loose = false ∧ c.mid = q)) : Sl.Spec Try.prog 32 [ptr b, .agg (ckb c (.slice a0 body.length c0)).toArray].toArray [isJ b nx ms, sl m0 1 (.slice a0 body.length c0) body.length (byc body)] (fun v => star (lift (v = .bool true)) (ex fun (x : Option Addr × Nat) => star (isJ b (nxP nx c) (ms ++ [msgOf c x.1 x.2 body])) (sl m0 1 (.slice a0 body.length c0) body.length (byc body)))) := by
  refine Sl.Spec.of_body (vs := [ptr b, .agg (ckb c (.slice a0 body.length c0)).toArray]) Try.func32 Try.ntmps32 (Nat.le_of_ble_eq_true rfl) rfl fun w0 F => ?_
  refine G.openJ fun r1 r2 r3 r4 ra rc => ?_
  refine G.seq ?_
  refine G.region ?_
  refine G.opc (by decide) (OpC.box (cs := [_, _, _, _, _, _, _, _, _, _, _, _, _, _, _, _, _, _, _]) rfl rfl) fun b3 => ?_
  refine G.yld (by decide) (Yld.assign rfl) ?_
  refine G.done ?_
  refine G.seq ?_
  refine G.region ?_
  refine G.yld (by decide) (Yld.assign rfl) ?_
  refine G.done ?_
  refine G.seq ?_
  refine G.seq ?_
  refine G.region ?_
  refine G.yld (by decide) (Yld.move rfl) ?_
  refine G.yld (by decide) (Yld.nilCheck rfl) ?_
  refine G.yld (by decide) (Yld.fieldAddr Try_fo118_0 rfl) ?_
  refine G.yld (by decide) (Yld.load rfl Try.isAgg4 (by repeat (first | with_reducible exact Pick.here | with_reducible apply Pick.there)) rfl) ?_
  refine G.done ?_
  refine G.condT rfl ?_
  refine G.region ?_
  refine G.yld (by decide) (Yld.assign rfl) ?_
  refine G.done ?_
  refine G.seq ?_
  refine G.cutX (X := Nat) (fun b6 => [(0, ptr b), (3, ptr b3), (5, .int .u8 64), (6, ptr b6)]) (fun b6 => [cel true b3 36 (ckb c (.slice a0 body.length c0)), cel true b6 123 [vU16 c.stream, .bool c.loose, vU32 c.mid], jcel b r1 r2 r3 r4 (.slice ra ms.length rc), mapA encK r1 [], mapA encU r2 [], mapA encK r3 [], mapA encH r4 nx, sl true 5 (.slice ra ms.length rc) ms.length (msgc ms), isBs ms, sl m0 1 (.slice a0 body.length c0) body.length (byc body)]) ?_ (fun b6 => ?_)
  · refine G.draw Try_mixed (.still 0 (.still 1 (.still 2 (.still 3 (.still 4 (.still 5 (.still 6 (.two 7 true (.still 8 (.loud 9 true (.loud 10 false (.done)))) 9 true (.loud 7 true (.loud 8 true (.loud 10 false (.done)))))))))))) (by kernel_rfl) (.cons (show Pick _ (cel true b3 36 _) _ from by repeat (first | with_reducible exact Pick.here | with_reducible apply Pick.there)) .nil) ?_
    refine GO.yld (i := 0) rfl (by decide) (Yld.fieldAddr Try_fo36_6 rfl) ?_
    refine GO.yld (i := 1) rfl (by decide) (Yld.load rfl Try.isAgg30 (by repeat (first | with_reducible exact Pick.here | with_reducible apply Pick.there)) rfl) ?_
    refine GO.yld (i := 2) rfl (by decide) (Yld.fieldAddr Try_fo36_3 rfl) ?_
    refine GO.yld (i := 3) rfl (by decide) (Yld.load rfl Try.isAgg4 (by repeat (first | with_reducible exact Pick.here | with_reducible apply Pick.there)) rfl) ?_
    refine GO.yld (i := 4) rfl (by decide) (Yld.move rfl) ?_
    refine GO.yld (i := 5) rfl (by decide) (Yld.fieldAddr Try_fo36_7 rfl) ?_
    refine GO.yld (i := 6) rfl (by decide) (Yld.load rfl Try.isAgg22 (by repeat (first | with_reducible exact Pick.here | with_reducible apply Pick.there)) rfl) ?_
    refine GO.two ?_ ?_
    · refine GO.opc (i := 7) rfl (by decide) (OpC.call Try.call58 rfl (jMid_spec b _ _ _ _ _ c.mid) (.cons (by repeat (first | with_reducible exact Pick.here | with_reducible apply Pick.there)) .nil)) (fun _ => (.cons (show Pick _ (cel true b3 36 _) _ from by repeat (first | with_reducible exact Pick.here | with_reducible apply Pick.there)) .nil)) fun _ => ?_
      refine GO.star ?_
      refine GO.lift ?_
      rintro rfl
      refine GO.yld (i := 8) rfl (by decide) (Yld.buildS (cs := [_, _, _]) Try_z123 Try_pl123 rfl rfl (.cons rfl rfl (Nat.le_of_ble_eq_true rfl) (.cons rfl rfl (Nat.le_of_ble_eq_true rfl) (.cons rfl rfl (Nat.le_of_ble_eq_true rfl) .nil))) rfl) ?_
      refine GO.opc (i := 9) rfl (by decide) (OpC.alloc (cs := [.int .u16 0, .bool false, .int .u32 0]) Try.zeroValue123 rfl) (fun _ => (.cons (show Pick _ (cel true b3 36 _) _ from by repeat (first | with_reducible exact Pick.here | with_reducible apply Pick.there)) .nil)) fun b6 => ?_
      refine GO.x ?_
      refine GX.op0 (i := 10) rfl  (OpC.storeAgg (k := 3) Try.sizeOf123 rfl rfl rfl rfl (by repeat (first | with_reducible exact Pick.here | with_reducible apply Pick.there)) (setWhole rfl) (Nat.le_of_ble_eq_true rfl)) fun _ => ?_
      refine GX.done ?_
      refine G.nil ?_
      exact G.cutXEnd b6 (.cons (t := 0) rfl (.cons (t := 3) rfl (.cons (t := 5) rfl (.cons (t := 6) rfl .nil)))) (.cons (.imp (.pick (A := cel true b3 36 _) (by repeat (first | with_reducible exact Pick.here | with_reducible apply Pick.there))) (fun r h => by exact h)) (.cons (.imp (.pick (A := cel true b6 123 _) (by repeat (first | with_reducible exact Pick.here | with_reducible apply Pick.there))) (fun r h => by exact h)) (.cons (.pick (A := cel true b 118 _) (by repeat (first | with_reducible exact Pick.here | with_reducible apply Pick.there))) (.cons (.pick (A := mapA encK r1 _) (by repeat (first | with_reducible exact Pick.here | with_reducible apply Pick.there))) (.cons (.pick (A := mapA encU r2 _) (by repeat (first | with_reducible exact Pick.here | with_reducible apply Pick.there))) (.cons (.pick (A := mapA encK r3 _) (by repeat (first | with_reducible exact Pick.here | with_reducible apply Pick.there))) (.cons (.pick (A := mapA encH r4 _) (by repeat (first | with_reducible exact Pick.here | with_reducible apply Pick.there))) (.cons (.pick (A := sl true 5 _ _ _) (by repeat (first | with_reducible exact Pick.here | with_reducible apply Pick.there))) (.cons (.pick (A := isBs _) (by repeat (first | with_reducible exact Pick.here | with_reducible apply Pick.there))) (.cons (.pick (A := sl m0 1 (.slice a0 _ _) _ _) (by repeat (first | with_reducible exact Pick.here | with_reducible apply Pick.there))) .nil))))))))))
    · refine GO.opc (i := 9) rfl (by decide) (OpC.alloc (cs := [.int .u16 0, .bool false, .int .u32 0]) Try.zeroValue123 rfl) (fun _ => (.cons (show Pick _ (cel true b3 36 _) _ from by repeat (first | with_reducible exact Pick.here | with_reducible apply Pick.there)) .nil)) fun b6 => ?_
      refine GO.opc (i := 7) rfl (by decide) (OpC.call Try.call58 rfl (jMid_spec b _ _ _ _ _ c.mid) (.cons (by repeat (first | with_reducible exact Pick.here | with_reducible apply Pick.there)) .nil)) (fun _ => (.cons (show Pick _ (cel true b3 36 _) _ from by repeat (first | with_reducible exact Pick.here | with_reducible apply Pick.there)) .nil)) fun _ => ?_
      refine GO.star ?_
      refine GO.lift ?_
      rintro rfl
      refine GO.lyld (i := 8) rfl (by decide) (Yld.buildS (cs := [_, _, _]) Try_z123 Try_pl123 rfl rfl (.cons rfl rfl (Nat.le_of_ble_eq_true rfl) (.cons rfl rfl (Nat.le_of_ble_eq_true rfl) (.cons rfl rfl (Nat.le_of_ble_eq_true rfl) .nil))) rfl) ?_
      refine GO.x ?_
      refine GX.op0 (i := 10) rfl  (OpC.storeAgg (k := 3) Try.sizeOf123 rfl rfl rfl rfl (by repeat (first | with_reducible exact Pick.here | with_reducible apply Pick.there)) (setWhole rfl) (Nat.le_of_ble_eq_true rfl)) fun _ => ?_
      refine GX.done ?_
      refine G.nil ?_
      exact G.cutXEnd b6 (.cons (t := 0) rfl (.cons (t := 3) rfl (.cons (t := 5) rfl (.cons (t := 6) rfl .nil)))) (.cons (.imp (.pick (A := cel true b3 36 _) (by repeat (first | with_reducible exact Pick.here | with_reducible apply Pick.there))) (fun r h => by exact h)) (.cons (.imp (.pick (A := cel true b6 123 _) (by repeat (first | with_reducible exact Pick.here | with_reducible apply Pick.there))) (fun r h => by exact h)) (.cons (.pick (A := cel true b 118 _) (by repeat (first | with_reducible exact Pick.here | with_reducible apply Pick.there))) (.cons (.pick (A := mapA encK r1 _) (by repeat (first | with_reducible exact Pick.here | with_reducible apply Pick.there))) (.cons (.pick (A := mapA encU r2 _) (by repeat (first | with_reducible exact Pick.here | with_reducible apply Pick.there))) (.cons (.pick (A := mapA encK r3 _) (by repeat (first | with_reducible exact Pick.here | with_reducible apply Pick.there))) (.cons (.pick (A := mapA encH r4 _) (by repeat (first | with_reducible exact Pick.here | with_reducible apply Pick.there))) (.cons (.pick (A := sl true 5 _ _ _) (by repeat (first | with_reducible exact Pick.here | with_reducible apply Pick.there))) (.cons (.pick (A := isBs _) (by repeat (first | with_reducible exact Pick.here | with_reducible apply Pick.there))) (.cons (.pick (A := sl m0 1 (.slice a0 _ _) _ _) (by repeat (first | with_reducible exact Pick.here | with_reducible apply Pick.there))) .nil))))))))))
  refine G.seq ?_
  refine G.seq ?_
  refine G.region ?_
  refine G.yld (by decide) (Yld.fieldAddr Try_fo36_0 rfl) ?_
  refine G.yld (by decide) (Yld.load rfl Try.isAgg29 (by repeat (first | with_reducible exact Pick.here | with_reducible apply Pick.there)) rfl) ?_
  refine G.yld (by decide) (Yld.move rfl) ?_
  refine G.yld (by decide) (Yld.neq_u8 (b := (64 : UInt8)) rfl rfl) ?_
  refine G.as (t := 27) (v := .bool false) rfl (congrArg Value.bool (decide_eq_false (not_not_intro hk))) ?_
  refine G.yld (by decide) (Yld.move rfl) ?_
  refine G.yldG (by decide) rfl rfl (Yld.fieldAddr Try_fo36_18 rfl) ?_
  refine G.yldG (by decide) rfl rfl (Yld.load rfl Try.isAgg23 (by repeat (first | with_reducible exact Pick.here | with_reducible apply Pick.there)) rfl) ?_
  refine G.yldG (by decide) rfl rfl (Yld.len_slice Try.runUnderlying23 rfl) ?_
  refine G.yldG (by decide) rfl rfl (Yld.eql_i (b := (0 : Int)) rfl rfl) ?_
  refine G.as (t := 32) (v := .bool false) rfl (congrArg Value.bool (decide_eq_false (by omega))) ?_
  refine G.yld (by decide) (Yld.pickF rfl rfl) ?_
  refine G.yld (by decide) (Yld.move rfl) ?_
  refine G.yldG (by decide) rfl rfl (Yld.move rfl) ?_
  refine G.yldG (by decide) rfl rfl (Yld.loadAgg (cs := [_, _, _]) rfl Try.isAgg123 Try.sizeOf123 (by repeat (first | with_reducible exact Pick.here | with_reducible apply Pick.there)) rfl (aggAt rfl)) ?_
  refine G.opG (by decide) rfl rfl (OpC.call Try.call59 rfl (jStale_spec b r3 r4 _ _ _ nx ((c.stream, c.loose, c.mid) : Key) q hn (hq.imp id fun h => ⟨h.1, by show less c.mid q = false; rw [h.2]; exact less_self q⟩)) (.cons (by repeat (first | with_reducible exact Pick.here | with_reducible apply Pick.there)) (.cons (by repeat (first | with_reducible exact Pick.here | with_reducible apply Pick.there)) (.cons (by repeat (first | with_reducible exact Pick.here | with_reducible apply Pick.there)) .nil)))) fun _ => ?_
  refine G.star ?_
  refine G.lift ?_
  rintro rfl
  refine G.star3 ?_
  refine G.yld (by decide) (Yld.pickF rfl rfl) ?_
  refine G.done ?_
  refine G.condF rfl ?_
  refine G.skip ?_
  refine G.seq ?_
  refine G.region ?_
  refine G.yld (by decide) (Yld.fieldAddr Try_fo36_18 rfl) ?_
  refine G.yld (by decide) (Yld.load rfl Try.isAgg23 (by repeat (first | with_reducible exact Pick.here | with_reducible apply Pick.there)) rfl) ?_
  refine G.opc (by decide) (OpC.call Try.call60 rfl (cloneB (m := m0) (n := body.length) (cs := byc body) _ (byc_cell _) (room_of _ _ (by decide) (by omega))) (.cons (A := sl m0 1 (.slice a0 _ _) _ _) (by repeat (first | with_reducible exact Pick.here | with_reducible apply Pick.there)) .nil)) fun bv => ?_
  refine G.star ?_
  refine G.slv fun ba bc hbv hlb hcb => ?_
  subst hbv
  refine G.yld (by decide) (Yld.fieldAddr Try_fo36_18 rfl) ?_
  refine G.op0  (OpC.storeS (.succ (.succ (.succ (.succ (.succ (.succ (.succ (.succ (.succ (.succ (.succ (.succ (.succ (.succ (.succ (.succ (.succ (.succ .zero)))))))))))))))))) Try.sizeOf23 rfl rfl rfl (by repeat (first | with_reducible exact Pick.here | with_reducible apply Pick.there))) fun _ => ?_
  refine G.done ?_
  refine G.seq ?_
  refine G.seq ?_
  refine G.region ?_
  refine G.yld (by decide) (Yld.move rfl) ?_
  refine G.yld (by decide) (Yld.nilCheck rfl) ?_
  refine G.yld (by decide) (Yld.fieldAddr Try_fo118_0 rfl) ?_
  refine G.yld (by decide) (Yld.load rfl Try.isAgg4 (by repeat (first | with_reducible exact Pick.here | with_reducible apply Pick.there)) rfl) ?_
  refine G.yld (by decide) (Yld.not rfl) ?_
  refine G.done ?_
  refine G.condF rfl ?_
  refine G.skip ?_
  refine G.seq ?_
  refine G.seq ?_
  refine G.draw Try_mixed (.still 0 (.still 1 (.still 2 (.still 3 (.still 4 (.still 5 (.still 6 (.still 7 (.still 8 (.still 9 (.still 10 (.still 11 (.loud 12 true (.loud 13 true (.loud 14 false (.done)))))))))))))))) (by kernel_rfl) (.cons (show Pick _ (cel true b 118 _) _ from by repeat (first | with_reducible exact Pick.here | with_reducible apply Pick.there)) (.cons (show Pick _ (cel true b3 36 _) _ from by repeat (first | with_reducible exact Pick.here | with_reducible apply Pick.there)) (.cons (show Pick _ (cel true b6 123 _) _ from by repeat (first | with_reducible exact Pick.here | with_reducible apply Pick.there)) (.cons (show Pick _ (mapA encK r1 _) _ from by repeat (first | with_reducible exact Pick.here | with_reducible apply Pick.there)) .nil)))) ?_
  refine GO.yld (i := 0) rfl (by decide) (Yld.move rfl) ?_
  refine GO.yld (i := 1) rfl (by decide) (Yld.nilCheck rfl) ?_
  refine GO.yld (i := 2) rfl (by decide) (Yld.fieldAddr Try_fo118_1 rfl) ?_
  refine GO.yld (i := 3) rfl (by decide) (Yld.load rfl Try.isAgg112 (by repeat (first | with_reducible exact Pick.here | with_reducible apply Pick.there)) rfl) ?_
  refine GO.yld (i := 4) rfl (by decide) (Yld.loadAgg (cs := [_, _, _]) rfl Try.isAgg123 Try.sizeOf123 (by repeat (first | with_reducible exact Pick.here | with_reducible apply Pick.there)) rfl (aggAt rfl)) ?_
  refine GO.yld (i := 5) rfl (by decide) (Yld.lookup (k := ((c.stream, c.loose, c.mid) : Key)) (z := .map none) key123 Try.runUnderlying112 Try.zeroValue113 rfl rfl (show Pick _ (mapA encK r1 _) _ from by repeat (first | with_reducible exact Pick.here | with_reducible apply Pick.there))) ?_
  rw [show (alook ([] : List (Key × Value)) ((c.stream, c.loose, c.mid) : Key)).getD (.map none) = .map none from rfl]
  refine GO.yld (i := 6) rfl (by decide) (Yld.fieldAddr Try_fo36_9 rfl) ?_
  refine GO.yld (i := 7) rfl (by decide) (Yld.load rfl Try.isAgg22 (by repeat (first | with_reducible exact Pick.here | with_reducible apply Pick.there)) rfl) ?_
  refine GO.yld (i := 8) rfl (by decide) (Yld.lookupNil (k := (c.frag.toNat : Int)) key22 Try.runUnderlying113 Try.zeroValue36 rfl rfl) ?_
  refine GO.yld (i := 9) rfl (by decide) (Yld.move rfl) ?_
  refine GO.yld (i := 10) rfl (by decide) (Yld.extract rfl rfl) ?_
  refine GO.yld (i := 11) rfl (by decide) (Yld.extract rfl rfl) ?_
  refine GO.opc (i := 12) rfl (by decide) (OpC.alloc (cs := [.int .u8 0, .bool false, .bool false, .bool false, .bool false, .int .u32 0, .int .u16 0, .int .u32 0, .int .u32 0, .int .u32 0, .int .u32 0, .int .u32 0, .int .u16 0, .int .u16 0, .slice none 0 0, .slice none 0 0, .slice none 0 0, .slice none 0 0, .slice none 0 0]) Try.zeroValue36 rfl) (fun _ => (.cons (show Pick _ (cel true b 118 _) _ from by repeat (first | with_reducible exact Pick.here | with_reducible apply Pick.there)) (.cons (show Pick _ (cel true b3 36 _) _ from by repeat (first | with_reducible exact Pick.here | with_reducible apply Pick.there)) (.cons (show Pick _ (cel true b6 123 _) _ from by repeat (first | with_reducible exact Pick.here | with_reducible apply Pick.there)) (.cons (show Pick _ (mapA encK r1 _) _ from by repeat (first | with_reducible exact Pick.here | with_reducible apply Pick.there)) .nil))))) fun b9 => ?_
  refine GO.op0 (i := 13) rfl  (OpC.storeAgg (k := 19) Try.sizeOf36 rfl rfl rfl rfl (by repeat (first | with_reducible exact Pick.here | with_reducible apply Pick.there)) (setWhole rfl) (Nat.le_of_ble_eq_true rfl)) (fun _ => (.cons (show Pick _ (cel true b 118 _) _ from by repeat (first | with_reducible exact Pick.here | with_reducible apply Pick.there)) (.cons (show Pick _ (cel true b3 36 _) _ from by repeat (first | with_reducible exact Pick.here | with_reducible apply Pick.there)) (.cons (show Pick _ (cel true b6 123 _) _ from by repeat (first | with_reducible exact Pick.here | with_reducible apply Pick.there)) (.cons (show Pick _ (mapA encK r1 _) _ from by repeat (first | with_reducible exact Pick.here | with_reducible apply Pick.there)) .nil))))) fun _ => ?_
  refine GO.x ?_
  refine GX.yld (i := 14) rfl (by decide) (Yld.assign rfl) ?_
  refine GX.done ?_
  refine G.seq ?_
  refine G.region ?_
  refine G.yld (by decide) (Yld.move rfl) ?_
  refine G.yld (by decide) (Yld.move rfl) ?_
  refine G.yldG (by decide) rfl rfl (Yld.fieldAddr Try_fo36_1 rfl) ?_
  refine G.yldG (by decide) rfl rfl (Yld.load rfl Try.isAgg4 (by repeat (first | with_reducible exact Pick.here | with_reducible apply Pick.there)) rfl) ?_
  refine G.yldG (by decide) rfl rfl (Yld.fieldAddr Try_fo36_9 rfl) ?_
  refine G.yldG (by decide) rfl rfl (Yld.load rfl Try.isAgg22 (by repeat (first | with_reducible exact Pick.here | with_reducible apply Pick.there)) rfl) ?_
  refine G.yldG (by decide) rfl rfl (Yld.eql_u32 (b := (0 : UInt32)) rfl rfl) ?_
  refine G.yldG (by decide) rfl rfl (Yld.neq_b Try.underlying4 rfl rfl) ?_
  refine G.as (t := 91) (v := .bool false) rfl (congrArg Value.bool (decide_eq_false (by simp [hbeg, hfrag]))) ?_
  refine G.yld (by decide) (Yld.pickF rfl rfl) ?_
  refine G.yld (by decide) (Yld.move rfl) ?_
  refine G.yldG (by decide) rfl rfl (Yld.fieldAddr Try_fo36_9 rfl) ?_
  refine G.yldG (by decide) rfl rfl (Yld.load rfl Try.isAgg22 (by repeat (first | with_reducible exact Pick.here | with_reducible apply Pick.there)) rfl) ?_
  refine G.yldG (by decide) rfl rfl (Yld.gtr_u32 (b := (65535 : UInt32)) rfl rfl) ?_
  refine G.as (t := 96) (v := .bool false) rfl (congrArg Value.bool (decide_eq_false (by rw [hfrag]; decide))) ?_
  refine G.yld (by decide) (Yld.pickF rfl rfl) ?_
  refine G.done ?_
  refine G.condF rfl ?_
  refine G.skip ?_
  refine G.seq ?_
  refine G.seq ?_
  refine G.draw Try_mixed (.still 0 (.still 1 (.still 2 (.still 3 (.still 4 (.still 5 (.still 6 (.done)))))))) (by kernel_rfl) (Picks.refl _) ?_
  refine GO.yld (i := 0) rfl (by decide) (Yld.move rfl) ?_
  refine GO.yld (i := 1) rfl (by decide) (Yld.nilCheck rfl) ?_
  refine GO.yld (i := 2) rfl (by decide) (Yld.fieldAddr Try_fo118_1 rfl) ?_
  refine GO.yld (i := 3) rfl (by decide) (Yld.load rfl Try.isAgg112 (by repeat (first | with_reducible exact Pick.here | with_reducible apply Pick.there)) rfl) ?_
  refine GO.yld (i := 4) rfl (by decide) (Yld.loadAgg (cs := [_, _, _]) rfl Try.isAgg123 Try.sizeOf123 (by repeat (first | with_reducible exact Pick.here | with_reducible apply Pick.there)) rfl (aggAt rfl)) ?_
  refine GO.yld (i := 5) rfl (by decide) (Yld.lookup (k := ((c.stream, c.loose, c.mid) : Key)) (z := .map none) key123 Try.runUnderlying112 Try.zeroValue113 rfl rfl (show Pick _ (mapA encK r1 _) _ from by repeat (first | with_reducible exact Pick.here | with_reducible apply Pick.there))) ?_
  rw [show (alook ([] : List (Key × Value)) ((c.stream, c.loose, c.mid) : Key)).getD (.map none) = .map none from rfl]
  refine GO.yld (i := 6) rfl (by decide) (Yld.eqlNil_map Try.underlying113 rfl) ?_
  refine GO.done ?_
  refine G.condT rfl ?_
  refine G.draw Try_mixed (.still 0 (.still 1 (.still 2 (.still 3 (.still 4 (.loud 5 true (.loud 6 false (.done)))))))) (by kernel_rfl) (.cons (show Pick _ (cel true b 118 _) _ from by repeat (first | with_reducible exact Pick.here | with_reducible apply Pick.there)) (.cons (show Pick _ (cel true b6 123 _) _ from by repeat (first | with_reducible exact Pick.here | with_reducible apply Pick.there)) .nil)) ?_
  refine GO.yld (i := 0) rfl (by decide) (Yld.move rfl) ?_
  refine GO.yld (i := 1) rfl (by decide) (Yld.nilCheck rfl) ?_
  refine GO.yld (i := 2) rfl (by decide) (Yld.fieldAddr Try_fo118_1 rfl) ?_
  refine GO.yld (i := 3) rfl (by decide) (Yld.load rfl Try.isAgg112 (by repeat (first | with_reducible exact Pick.here | with_reducible apply Pick.there)) rfl) ?_
  refine GO.yld (i := 4) rfl (by decide) (Yld.loadAgg (cs := [_, _, _]) rfl Try.isAgg123 Try.sizeOf123 (by repeat (first | with_reducible exact Pick.here | with_reducible apply Pick.there)) rfl (aggAt rfl)) ?_
  refine GO.opc (i := 5) rfl (by decide) (OpC.makeMap) (fun _ => (.cons (show Pick _ (cel true b 118 _) _ from by repeat (first | with_reducible exact Pick.here | with_reducible apply Pick.there)) (.cons (show Pick _ (cel true b6 123 _) _ from by repeat (first | with_reducible exact Pick.here | with_reducible apply Pick.there)) .nil))) fun rp => ?_
  refine GO.x ?_
  refine GX.op0 (i := 6) rfl  (OpC.mapUpdate (k := ((c.stream, c.loose, c.mid) : Key)) key123 Try.runUnderlying112 rfl rfl rfl (show Pick _ (mapA encK r1 _) _ from by repeat (first | with_reducible exact Pick.here | with_reducible apply Pick.there))) fun _ => ?_
  rw [show aset ([] : List (Key × Value)) ((c.stream, c.loose, c.mid) : Key) (.map (some rp)) = [(((c.stream, c.loose, c.mid) : Key), .map (some rp))] from rfl]
  refine GX.done ?_
  refine G.seq ?_
  refine G.conv (A := pt true rp _) (by repeat (first | with_reducible exact Pick.here | with_reducible apply Pick.there)) (A' := mapA encU rp []) (fun _ h => mapA_new h) ?_
  refine G.draw Try_mixed (.still 0 (.still 1 (.still 2 (.still 3 (.still 4 (.still 5 (.still 6 (.still 7 (.still 8 (.loud 9 false (.done))))))))))) (by kernel_rfl) (Picks.refl _) ?_
  refine GO.yld (i := 0) rfl (by decide) (Yld.move rfl) ?_
  refine GO.yld (i := 1) rfl (by decide) (Yld.nilCheck rfl) ?_
  refine GO.yld (i := 2) rfl (by decide) (Yld.fieldAddr Try_fo118_1 rfl) ?_
  refine GO.yld (i := 3) rfl (by decide) (Yld.load rfl Try.isAgg112 (by repeat (first | with_reducible exact Pick.here | with_reducible apply Pick.there)) rfl) ?_
  refine GO.yld (i := 4) rfl (by decide) (Yld.loadAgg (cs := [_, _, _]) rfl Try.isAgg123 Try.sizeOf123 (by repeat (first | with_reducible exact Pick.here | with_reducible apply Pick.there)) rfl (aggAt rfl)) ?_
  refine GO.yld (i := 5) rfl (by decide) (Yld.lookup (k := ((c.stream, c.loose, c.mid) : Key)) (z := .map none) key123 Try.runUnderlying112 Try.zeroValue113 rfl rfl (show Pick _ (mapA encK r1 _) _ from by repeat (first | with_reducible exact Pick.here | with_reducible apply Pick.there))) ?_
  rw [show (alook [(((c.stream, c.loose, c.mid) : Key), (.map (some rp) : Value))] ((c.stream, c.loose, c.mid) : Key)).getD (.map none) = .map (some rp) by simp [alook]]
  refine GO.yld (i := 6) rfl (by decide) (Yld.fieldAddr Try_fo36_9 rfl) ?_
  refine GO.yld (i := 7) rfl (by decide) (Yld.load rfl Try.isAgg22 (by repeat (first | with_reducible exact Pick.here | with_reducible apply Pick.there)) rfl) ?_
  refine GO.yld (i := 8) rfl (by decide) (Yld.loadAgg (cs := [_, _, _, _, _, _, _, _, _, _, _, _, _, _, _, _, _, _, _]) rfl Try.isAgg36 Try.sizeOf36 (by repeat (first | with_reducible exact Pick.here | with_reducible apply Pick.there)) rfl (aggAt rfl)) ?_
  refine GO.x ?_
  refine GX.op0 (i := 9) rfl  (OpC.mapUpdate (k := (c.frag.toNat : Int)) key22 Try.runUnderlying113 rfl rfl rfl (show Pick _ (mapA encU rp _) _ from by repeat (first | with_reducible exact Pick.here | with_reducible apply Pick.there))) fun _ => ?_
  rw [show aset ([] : List (Int × Value)) (c.frag.toNat : Int) (.agg (ckb c (.slice ba body.length bc)).toArray) = [((0 : Int), .agg (ckb c (.slice ba body.length bc)).toArray)] by rw [hfrag]; rfl]
  refine GX.done ?_
  refine G.seq ?_
  refine G.region ?_
  refine G.yld (by decide) (Yld.move rfl) ?_
  refine G.yld (by decide) (Yld.move rfl) ?_
  refine G.yld (by decide) (Yld.loadAgg (cs := [_, _, _]) rfl Try.isAgg123 Try.sizeOf123 (by repeat (first | with_reducible exact Pick.here | with_reducible apply Pick.there)) rfl (aggAt rfl)) ?_
  refine G.opc (by decide) (OpC.call Try.call63 rfl (jAll_spec b r1 r2 r3 r4 rp _ ((c.stream, c.loose, c.mid) : Key) c ba bc body hfin) (.cons (by repeat (first | with_reducible exact Pick.here | with_reducible apply Pick.there)) (.cons (by repeat (first | with_reducible exact Pick.here | with_reducible apply Pick.there)) (.cons (by repeat (first | with_reducible exact Pick.here | with_reducible apply Pick.there)) .nil)))) fun _ => ?_
  refine G.ex fun x => ?_
  refine G.star ?_
  refine G.lift ?_
  rintro rfl
  refine G.star4 ?_
  obtain ⟨ca, cc⟩ := x
  refine G.opc (by decide) (OpC.call Try.call61 rfl (jWhole_spec b r1 r2 r3 r4 ra rc nx ms c ba bc body ca cc _ (by omega) hsm (hq.imp id fun h => ⟨h.1, by rw [h.2]; exact hn⟩)) (.cons (by repeat (first | with_reducible exact Pick.here | with_reducible apply Pick.there)) (.cons (by repeat (first | with_reducible exact Pick.here | with_reducible apply Pick.there)) (.cons (by repeat (first | with_reducible exact Pick.here | with_reducible apply Pick.there)) (.cons (by repeat (first | with_reducible exact Pick.here | with_reducible apply Pick.there)) (.cons (by repeat (first | with_reducible exact Pick.here | with_reducible apply Pick.there)) (.cons (by repeat (first | with_reducible exact Pick.here | with_reducible apply Pick.there)) (.cons (by repeat (first | with_reducible exact Pick.here | with_reducible apply Pick.there)) (.cons (by repeat (first | with_reducible exact Pick.here | with_reducible apply Pick.there)) .nil))))))))) fun _ => ?_
  refine G.ex fun x => ?_
  refine G.star7 ?_
  obtain ⟨ma, mc, ra2, rc2⟩ := x
  refine G.done ?_
  refine G.seq ?_
  refine G.region ?_
  refine G.yld (by decide) (Yld.assign rfl) ?_
  refine G.done ?_
  refine G.ret ?_
  refine G.ret1 (.inr rfl) Try.results32 (.tmp rfl) ?_
  exact ⟨_, (.star (.lift rfl) (.ex (ma, mc) (.star (entJ (.pick (by repeat (first | with_reducible exact Pick.here | with_reducible apply Pick.there))) (.pick (by repeat (first | with_reducible exact Pick.here | with_reducible apply Pick.there))) (.pick (by repeat (first | with_reducible exact Pick.here | with_reducible apply Pick.there))) (.pick (by repeat (first | with_reducible exact Pick.here | with_reducible apply Pick.there))) (.pick (by repeat (first | with_reducible exact Pick.here | with_reducible apply Pick.there))) (.pick (by repeat (first | with_reducible exact Pick.here | with_reducible apply Pick.there))) (.imp (.star (.pick (A := sl true 1 (.slice ma _ _) _ _) (by repeat (first | with_reducible exact Pick.here | with_reducible apply Pick.there))) (.pick (A := isBs _) (by repeat (first | with_reducible exact Pick.here | with_reducible apply Pick.there)))) (fun q h => isBs_snoc q h)) rfl rfl) (.pick (A := sl m0 1 (.slice a0 _ _) _ _) (by repeat (first | with_reducible exact Pick.here | with_reducible apply Pick.there))))))⟩
end Go.Fl
