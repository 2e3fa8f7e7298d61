/- Contracts, printed by a program of mine and proved by Lean. -/
import Derived.Test.YtogemllbdkbjkaaFlD3
set_option linter.unusedVariables false
set_option linter.unusedSimpArgs false
namespace Go.Fl
open Go Go.Sl Go.Proofs
set_option maxRecDepth 10000
set_option linter.unusedVariables false
theorem jWhole_spec (b r1 r2 r3 r4 : Nat) (ra : Option Addr) (rc : Nat) (nx : List (Int × Value)) (ms : List Msg) (c : Ck) (ba : Option Addr) (bc : Nat) (body : List UInt8) (a : Option Addr) (cc : Nat) (wv : Value) (hb : body.length ≤ 70000) (hsm : ms.length ≤ 1000000) (hq : c.loose = true ∨ (c.loose = false ∧ nextOf nx c.stream c.mid)) : Sl.Spec Try.prog 61 [ptr b, .slice a 1 cc].toArray [jcel b r1 r2 r3 r4 (.slice ra ms.length rc), sl true 19 (.slice a 1 cc) 1 (ckb c (.slice ba body.length bc)), byo (.slice ba body.length bc) body, mapA encK r1 [(((c.stream, c.loose, c.mid) : Key), wv)], mapA encU r2 [], mapA encK r3 [], mapA encH r4 nx, sl true 5 (.slice ra ms.length rc) ms.length (msgc ms)] (fun v => ex fun (x : Option Addr × Nat × Option Addr × Nat) => star (jcel b r1 r2 r3 r4 (.slice x.2.2.1 (ms ++ [msgOf c x.1 x.2.1 body]).length x.2.2.2)) (star (mapA encK r1 []) (star (mapA encU r2 []) (star (mapA encK r3 []) (star (mapA encH r4 (nxP nx c)) (star (sl true 5 (.slice x.2.2.1 (ms ++ [msgOf c x.1 x.2.1 body]).length x.2.2.2) (ms ++ [msgOf c x.1 x.2.1 body]).length (msgc (ms ++ [msgOf c x.1 x.2.1 body]))) (isB (msgOf c x.1 x.2.1 body)))))))) := by
  refine Sl.Spec.of_body (vs := [ptr b, .slice a 1 cc]) Try.func61 Try.ntmps61 (Nat.le_of_ble_eq_true rfl) rfl fun w0 F => ?_
  refine G.seq ?_
  refine G.seq ?_
  refine G.region ?_
  refine G.yld (by decide) (Yld.move rfl) ?_
  refine G.yld (by decide) (Yld.len_slice Try.runUnderlying130 rfl) ?_
  refine G.yld (by decide) (Yld.eql_i (b := (0 : Int)) rfl rfl) ?_
  refine G.as (t := 11) (v := .bool false) rfl (congrArg Value.bool (decide_eq_false (by simp))) ?_
  refine G.done ?_
  refine G.condF rfl ?_
  refine G.skip ?_
  refine G.seq ?_
  refine G.region ?_
  refine G.yld (by decide) (Yld.move rfl) ?_
  refine G.yld (by decide) (Yld.indexE Try.runUnderlying130 Try.sizeOf36 rfl rfl (by repeat (first | with_reducible exact Pick.here | with_reducible apply Pick.there)) (by decide) (by omega) (by decide)) ?_
  refine G.yld (by decide) (Yld.loadAggE (us := (ckb c (.slice ba body.length bc))) Try.isAgg36 Try.sizeOf36 rfl (by repeat (first | with_reducible exact Pick.here | with_reducible apply Pick.there)) rfl (by decide) rfl) ?_
  refine G.opc (by decide) (OpC.alloc (cs := [.int .u8 0, .bool false, .bool false, .bool false, .bool false, .int .u32 0, .int .u16 0, .int .u32 0, .int .u32 0, .int .u32 0, .int .u32 0, .int .u32 0, .int .u16 0, .int .u16 0, .slice none 0 0, .slice none 0 0, .slice none 0 0, .slice none 0 0, .slice none 0 0]) Try.zeroValue36 rfl) fun b4 => ?_
  refine G.op0  (OpC.storeAgg (k := 19) Try.sizeOf36 rfl rfl rfl rfl (by repeat (first | with_reducible exact Pick.here | with_reducible apply Pick.there)) (setWhole rfl) (Nat.le_of_ble_eq_true rfl)) fun _ => ?_
  refine G.done ?_
  refine G.seq ?_
  refine G.cutX (X := Nat) (fun b5 => [(0, ptr b), (1, .slice a 1 cc), (5, ptr b5)]) (fun b5 => [jcel b r1 r2 r3 r4 (.slice ra ms.length rc), sl true 19 (.slice a 1 cc) 1 (ckb c (.slice ba body.length bc)), byo (.slice ba body.length bc) body, cel true b5 68 [vU16 c.stream, .bool c.loose, vU32 c.mid, vU32 c.ppid, .slice none 0 0], mapA encK r1 [(((c.stream, c.loose, c.mid) : Key), wv)], mapA encU r2 [], mapA encK r3 [], mapA encH r4 nx, sl true 5 (.slice ra ms.length rc) ms.length (msgc ms)]) ?_ (fun b5 => ?_)
  · refine G.draw Try_mixed (.still 0 (.still 1 (.still 2 (.still 3 (.still 4 (.still 5 (.still 6 (.still 8 (.still 9 (.two 7 true (.still 10 (.loud 11 true (.loud 12 false (.done)))) 11 true (.loud 7 true (.loud 10 true (.loud 12 false (.done)))))))))))))) (by kernel_rfl) (.cons (show Pick _ (cel true b4 36 _) _ from by repeat (first | with_reducible exact Pick.here | with_reducible apply Pick.there)) .nil) ?_
    refine GO.yld (i := 0) rfl (by decide) (Yld.fieldAddr Try_fo36_6 rfl) ?_
    refine GO.yld (i := 1) rfl (by decide) (Yld.load rfl Try.isAgg30 (by repeat (first | with_reducible exact Pick.here | with_reducible apply Pick.there)) rfl) ?_
    refine GO.yld (i := 2) rfl (by decide) (Yld.fieldAddr Try_fo36_3 rfl) ?_
    refine GO.yld (i := 3) rfl (by decide) (Yld.load rfl Try.isAgg4 (by repeat (first | with_reducible exact Pick.here | with_reducible apply Pick.there)) rfl) ?_
    refine GO.yld (i := 4) rfl (by decide) (Yld.move rfl) ?_
    refine GO.yld (i := 5) rfl (by decide) (Yld.fieldAddr Try_fo36_7 rfl) ?_
    refine GO.yld (i := 6) rfl (by decide) (Yld.load rfl Try.isAgg22 (by repeat (first | with_reducible exact Pick.here | with_reducible apply Pick.there)) rfl) ?_
    refine GO.yld (i := 8) rfl (by decide) (Yld.fieldAddr Try_fo36_8 rfl) ?_
    refine GO.yld (i := 9) rfl (by decide) (Yld.load rfl Try.isAgg22 (by repeat (first | with_reducible exact Pick.here | with_reducible apply Pick.there)) rfl) ?_
    refine GO.two ?_ ?_
    · refine GO.opc (i := 7) rfl (by decide) (OpC.call Try.call58 rfl (jMid_spec b _ _ _ _ _ c.mid) (.cons (by repeat (first | with_reducible exact Pick.here | with_reducible apply Pick.there)) .nil)) (fun _ => (.cons (show Pick _ (cel true b4 36 _) _ from by repeat (first | with_reducible exact Pick.here | with_reducible apply Pick.there)) .nil)) fun _ => ?_
      refine GO.star ?_
      refine GO.lift ?_
      rintro rfl
      refine GO.yld (i := 10) rfl (by decide) (Yld.buildS (cs := [_, _, _, _, _]) Try_z68 Try_pl68 rfl rfl (.cons rfl rfl (Nat.le_of_ble_eq_true rfl) (.cons rfl rfl (Nat.le_of_ble_eq_true rfl) (.cons rfl rfl (Nat.le_of_ble_eq_true rfl) (.cons rfl rfl (Nat.le_of_ble_eq_true rfl) .nil)))) rfl) ?_
      refine GO.opc (i := 11) rfl (by decide) (OpC.alloc (cs := [.int .u16 0, .bool false, .int .u32 0, .int .u32 0, .slice none 0 0]) Try.zeroValue68 rfl) (fun _ => (.cons (show Pick _ (cel true b4 36 _) _ from by repeat (first | with_reducible exact Pick.here | with_reducible apply Pick.there)) .nil)) fun b5 => ?_
      refine GO.x ?_
      refine GX.op0 (i := 12) rfl  (OpC.storeAgg (k := 5) Try.sizeOf68 rfl rfl rfl rfl (by repeat (first | with_reducible exact Pick.here | with_reducible apply Pick.there)) (setWhole rfl) (Nat.le_of_ble_eq_true rfl)) fun _ => ?_
      refine GX.done ?_
      refine G.nil ?_
      exact G.cutXEnd b5 (.cons (t := 0) rfl (.cons (t := 1) rfl (.cons (t := 5) rfl .nil))) (.cons (.pick (A := cel true b 118 _) (by repeat (first | with_reducible exact Pick.here | with_reducible apply Pick.there))) (.cons (.pick (A := sl true 19 _ _ _) (by repeat (first | with_reducible exact Pick.here | with_reducible apply Pick.there))) (.cons (.pick (A := sl true 1 (.slice ba _ _) _ _) (by repeat (first | with_reducible exact Pick.here | with_reducible apply Pick.there))) (.cons (.imp (.pick (A := cel true b5 68 _) (by repeat (first | with_reducible exact Pick.here | with_reducible apply Pick.there))) (fun r h => by exact h)) (.cons (.pick (A := mapA encK r1 _) (by repeat (first | with_reducible exact Pick.here | with_reducible apply Pick.there))) (.cons (.pick (A := mapA encU r2 _) (by repeat (first | with_reducible exact Pick.here | with_reducible apply Pick.there))) (.cons (.pick (A := mapA encK r3 _) (by repeat (first | with_reducible exact Pick.here | with_reducible apply Pick.there))) (.cons (.pick (A := mapA encH r4 _) (by repeat (first | with_reducible exact Pick.here | with_reducible apply Pick.there))) (.cons (.pick (A := sl true 5 _ _ _) (by repeat (first | with_reducible exact Pick.here | with_reducible apply Pick.there))) .nil)))))))))
    · refine GO.opc (i := 11) rfl (by decide) (OpC.alloc (cs := [.int .u16 0, .bool false, .int .u32 0, .int .u32 0, .slice none 0 0]) Try.zeroValue68 rfl) (fun _ => (.cons (show Pick _ (cel true b4 36 _) _ from by repeat (first | with_reducible exact Pick.here | with_reducible apply Pick.there)) .nil)) fun b5 => ?_
      refine GO.opc (i := 7) rfl (by decide) (OpC.call Try.call58 rfl (jMid_spec b _ _ _ _ _ c.mid) (.cons (by repeat (first | with_reducible exact Pick.here | with_reducible apply Pick.there)) .nil)) (fun _ => (.cons (show Pick _ (cel true b4 36 _) _ from by repeat (first | with_reducible exact Pick.here | with_reducible apply Pick.there)) .nil)) fun _ => ?_
      refine GO.star ?_
      refine GO.lift ?_
      rintro rfl
      refine GO.lyld (i := 10) rfl (by decide) (Yld.buildS (cs := [_, _, _, _, _]) Try_z68 Try_pl68 rfl rfl (.cons rfl rfl (Nat.le_of_ble_eq_true rfl) (.cons rfl rfl (Nat.le_of_ble_eq_true rfl) (.cons rfl rfl (Nat.le_of_ble_eq_true rfl) (.cons rfl rfl (Nat.le_of_ble_eq_true rfl) .nil)))) rfl) ?_
      refine GO.x ?_
      refine GX.op0 (i := 12) rfl  (OpC.storeAgg (k := 5) Try.sizeOf68 rfl rfl rfl rfl (by repeat (first | with_reducible exact Pick.here | with_reducible apply Pick.there)) (setWhole rfl) (Nat.le_of_ble_eq_true rfl)) fun _ => ?_
      refine GX.done ?_
      refine G.nil ?_
      exact G.cutXEnd b5 (.cons (t := 0) rfl (.cons (t := 1) rfl (.cons (t := 5) rfl .nil))) (.cons (.pick (A := cel true b 118 _) (by repeat (first | with_reducible exact Pick.here | with_reducible apply Pick.there))) (.cons (.pick (A := sl true 19 _ _ _) (by repeat (first | with_reducible exact Pick.here | with_reducible apply Pick.there))) (.cons (.pick (A := sl true 1 (.slice ba _ _) _ _) (by repeat (first | with_reducible exact Pick.here | with_reducible apply Pick.there))) (.cons (.imp (.pick (A := cel true b5 68 _) (by repeat (first | with_reducible exact Pick.here | with_reducible apply Pick.there))) (fun r h => by exact h)) (.cons (.pick (A := mapA encK r1 _) (by repeat (first | with_reducible exact Pick.here | with_reducible apply Pick.there))) (.cons (.pick (A := mapA encU r2 _) (by repeat (first | with_reducible exact Pick.here | with_reducible apply Pick.there))) (.cons (.pick (A := mapA encK r3 _) (by repeat (first | with_reducible exact Pick.here | with_reducible apply Pick.there))) (.cons (.pick (A := mapA encH r4 _) (by repeat (first | with_reducible exact Pick.here | with_reducible apply Pick.there))) (.cons (.pick (A := sl true 5 _ _ _) (by repeat (first | with_reducible exact Pick.here | with_reducible apply Pick.there))) .nil)))))))))
  refine G.seq ?_
  refine G.region ?_
  refine G.yld (by decide) (Yld.fieldAddr Try_fo68_0 rfl) ?_
  refine G.yld (by decide) (Yld.load rfl Try.isAgg30 (by repeat (first | with_reducible exact Pick.here | with_reducible apply Pick.there)) rfl) ?_
  refine G.yld (by decide) (Yld.fieldAddr Try_fo68_1 rfl) ?_
  refine G.yld (by decide) (Yld.load rfl Try.isAgg4 (by repeat (first | with_reducible exact Pick.here | with_reducible apply Pick.there)) rfl) ?_
  refine G.yld (by decide) (Yld.fieldAddr Try_fo68_2 rfl) ?_
  refine G.yld (by decide) (Yld.load rfl Try.isAgg22 (by repeat (first | with_reducible exact Pick.here | with_reducible apply Pick.there)) rfl) ?_
  refine G.yld (by decide) (Yld.buildS (cs := [_, _, _]) Try_z123 Try_pl123 rfl rfl (.cons rfl rfl (Nat.le_of_ble_eq_true rfl) (.cons rfl rfl (Nat.le_of_ble_eq_true rfl) (.cons rfl rfl (Nat.le_of_ble_eq_true rfl) .nil))) rfl) ?_
  refine G.opc (by decide) (OpC.alloc (cs := [.int .u16 0, .bool false, .int .u32 0]) Try.zeroValue123 rfl) fun b6 => ?_
  refine G.op0  (OpC.storeAgg (k := 3) Try.sizeOf123 rfl rfl rfl rfl (by repeat (first | with_reducible exact Pick.here | with_reducible apply Pick.there)) (setWhole rfl) (Nat.le_of_ble_eq_true rfl)) fun _ => ?_
  refine G.done ?_
  refine G.seq ?_
  refine G.seq ?_
  refine G.region ?_
  refine G.yld (by decide) (Yld.move rfl) ?_
  refine G.yld (by decide) (Yld.len_slice Try.runUnderlying130 rfl) ?_
  refine G.yld (by decide) (Yld.move rfl) ?_
  refine G.done ?_
  refine G.block ?_
  refine G.loopE (X := Nat × Option Addr × Nat) (fun x => [(0, ptr b), (5, ptr b5), (6, ptr b6), (33, .slice a 1 cc), (34, vI ((1 : Nat) : Int)), (35, vI x.1)]) (fun x => [lift (x.1 ≤ 1), jcel b r1 r2 r3 r4 (.slice ra ms.length rc), sl true 19 (.slice a 1 cc) 1 (ckb c (.slice ba body.length bc)), byo (.slice ba body.length bc) body, cel true b5 68 [vU16 c.stream, .bool c.loose, vU32 c.mid, vU32 c.ppid, .slice x.2.1 (if x.1 = 0 then [] else body).length x.2.2], sl true 1 (.slice x.2.1 (if x.1 = 0 then [] else body).length x.2.2) (if x.1 = 0 then [] else body).length (byc (if x.1 = 0 then [] else body)), cel true b6 123 [vU16 c.stream, .bool c.loose, vU32 c.mid], mapA encK r1 [(((c.stream, c.loose, c.mid) : Key), wv)], mapA encU r2 [], mapA encK r3 [], mapA encH r4 nx, sl true 5 (.slice ra ms.length rc) ms.length (msgc ms)]) (fun x => 1 - x.1) (0, none, 0) (.cons (t := 0) rfl (.cons (t := 5) rfl (.cons (t := 6) rfl (.cons (t := 33) rfl (.cons (t := 34) rfl (.cons (t := 35) rfl .nil)))))) (.cons (.lift (Nat.zero_le _)) (.cons (.pick (A := cel true b 118 _) (by repeat (first | with_reducible exact Pick.here | with_reducible apply Pick.there))) (.cons (.pick (A := sl true 19 _ _ _) (by repeat (first | with_reducible exact Pick.here | with_reducible apply Pick.there))) (.cons (.pick (A := sl true 1 (.slice ba _ _) _ _) (by repeat (first | with_reducible exact Pick.here | with_reducible apply Pick.there))) (.cons (.imp (.pick (A := cel true b5 68 _) (by repeat (first | with_reducible exact Pick.here | with_reducible apply Pick.there))) (fun r h => by exact h)) (.cons (.imp .emp fun _ _ => sl_nil) (.cons (.imp (.pick (A := cel true b6 123 _) (by repeat (first | with_reducible exact Pick.here | with_reducible apply Pick.there))) (fun r h => by exact h)) (.cons (.pick (A := mapA encK r1 _) (by repeat (first | with_reducible exact Pick.here | with_reducible apply Pick.there))) (.cons (.pick (A := mapA encU r2 _) (by repeat (first | with_reducible exact Pick.here | with_reducible apply Pick.there))) (.cons (.pick (A := mapA encK r3 _) (by repeat (first | with_reducible exact Pick.here | with_reducible apply Pick.there))) (.cons (.pick (A := mapA encH r4 _) (by repeat (first | with_reducible exact Pick.here | with_reducible apply Pick.there))) (.cons (.pick (A := sl true 5 _ _ _) (by repeat (first | with_reducible exact Pick.here | with_reducible apply Pick.there))) .nil)))))))))))) fun ⟨i, ma, mc⟩ => ?_
  refine G.lift fun hi => ?_
  simp only at hi
  refine G.seq ?_
  refine G.region ?_
  refine G.yld (by decide) (Yld.lss_i rfl rfl) ?_
  refine G.done ?_
  refine G.seq ?_
  refine G.condP rfl (fun hlt => ?_) (fun hlt => ?_)
  · have hi0 : i = 0 := by simp only at hlt; omega
    subst hi0
    simp only [if_true, List.length_nil, show byc [] = [] from rfl]
    refine G.skip ?_
    refine G.seq ?_
    refine G.block ?_
    refine G.seq ?_
    refine G.region ?_
    refine G.yld (by decide) (Yld.indexE Try.runUnderlying130 Try.sizeOf36 rfl rfl (by repeat (first | with_reducible exact Pick.here | with_reducible apply Pick.there)) (by decide) (by omega) (by decide)) ?_
    refine G.yld (by decide) (Yld.loadAggE (us := (ckb c (.slice ba body.length bc))) Try.isAgg36 Try.sizeOf36 rfl (by repeat (first | with_reducible exact Pick.here | with_reducible apply Pick.there)) rfl (by decide) rfl) ?_
    refine G.opc (by decide) (OpC.alloc (cs := [.int .u8 0, .bool false, .bool false, .bool false, .bool false, .int .u32 0, .int .u16 0, .int .u32 0, .int .u32 0, .int .u32 0, .int .u32 0, .int .u32 0, .int .u16 0, .int .u16 0, .slice none 0 0, .slice none 0 0, .slice none 0 0, .slice none 0 0, .slice none 0 0]) Try.zeroValue36 rfl) fun b8 => ?_
    refine G.op0  (OpC.storeAgg (k := 19) Try.sizeOf36 rfl rfl rfl rfl (by repeat (first | with_reducible exact Pick.here | with_reducible apply Pick.there)) (setWhole rfl) (Nat.le_of_ble_eq_true rfl)) fun _ => ?_
    refine G.done ?_
    refine G.seq ?_
    refine G.region ?_
    refine G.yld (by decide) (Yld.fieldAddr Try_fo68_4 rfl) ?_
    refine G.yld (by decide) (Yld.load rfl Try.isAgg23 (by repeat (first | with_reducible exact Pick.here | with_reducible apply Pick.there)) rfl) ?_
    refine G.yld (by decide) (Yld.fieldAddr Try_fo36_18 rfl) ?_
    refine G.yld (by decide) (Yld.load rfl Try.isAgg23 (by repeat (first | with_reducible exact Pick.here | with_reducible apply Pick.there)) rfl) ?_
    refine G.opc (by decide) (OpC.appendE (kk := 1) (bytes := 1) Try.underlying23 Try.type5 rfl rfl rfl rfl rfl Try.underlying23 rfl rfl (show Pick _ (sl true 1 (.slice ma _ _) _ _) _ from by repeat (first | with_reducible exact Pick.here | with_reducible apply Pick.there)) (show Pick _ (sl true 1 (.slice ba _ _) _ _) _ from by repeat (first | with_reducible exact Pick.here | with_reducible apply Pick.there)) (byc_cell _) (room_of _ _ (by decide) (by omega)) (Nat.zero_add _) (List.nil_append _)) fun vg => ?_
    refine G.slv fun ma2 mc2 hvg hlg hcg => ?_
    subst hvg
    refine G.yld (by decide) (Yld.fieldAddr Try_fo68_4 rfl) ?_
    refine G.op0  (OpC.storeS (.succ (.succ (.succ (.succ .zero)))) Try.sizeOf23 rfl rfl rfl (by repeat (first | with_reducible exact Pick.here | with_reducible apply Pick.there))) fun _ => ?_
    refine G.done ?_
    refine G.draw Try_mixed (.still 0 (.still 1 (.still 2 (.still 3 (.still 4 (.still 5 (.loud 6 false (.done)))))))) (by kernel_rfl) (Picks.refl _) ?_
    refine GO.yld (i := 0) rfl (by decide) (Yld.move rfl) ?_
    refine GO.yld (i := 1) rfl (by decide) (Yld.nilCheck rfl) ?_
    refine GO.yld (i := 2) rfl (by decide) (Yld.fieldAddr Try_fo118_2 rfl) ?_
    refine GO.yld (i := 3) rfl (by decide) (Yld.load rfl Try.isAgg113 (by repeat (first | with_reducible exact Pick.here | with_reducible apply Pick.there)) rfl) ?_
    refine GO.yld (i := 4) rfl (by decide) (Yld.fieldAddr Try_fo36_5 rfl) ?_
    refine GO.yld (i := 5) rfl (by decide) (Yld.load rfl Try.isAgg22 (by repeat (first | with_reducible exact Pick.here | with_reducible apply Pick.there)) rfl) ?_
    refine GO.x ?_
    refine GX.op0 (i := 6) rfl  (OpC.mapDelete (k := (c.tsn.toNat : Int)) key22 Try.runUnderlying113 rfl rfl (show Pick _ (mapA encU r2 _) _ from by repeat (first | with_reducible exact Pick.here | with_reducible apply Pick.there))) fun _ => ?_
    rw [show adel ([] : List (Int × Value)) (c.tsn.toNat : Int) = [] from rfl]
    refine GX.done ?_
    refine G.nil ?_
    refine G.x_block (G.x_then ?_)
    refine G.region ?_
    refine G.yld (by decide) (Yld.add_i (b := (1 : Int)) rfl rfl (by omega)) ?_
    refine G.yld (by decide) (Yld.move rfl) ?_
    refine G.done ?_
    refine G.nil ?_
    refine G.x_then ?_
    exact G.againE (1, ma2, mc2) (by simp) (.cons (t := 0) rfl (.cons (t := 5) rfl (.cons (t := 6) rfl (.cons (t := 33) rfl (.cons (t := 34) rfl (.cons (t := 35) rfl .nil)))))) (.cons (.lift (by simp)) (.cons (.pick (A := cel true b 118 _) (by repeat (first | with_reducible exact Pick.here | with_reducible apply Pick.there))) (.cons (.pick (A := sl true 19 _ _ _) (by repeat (first | with_reducible exact Pick.here | with_reducible apply Pick.there))) (.cons (.pick (A := sl true 1 (.slice ba _ _) _ _) (by repeat (first | with_reducible exact Pick.here | with_reducible apply Pick.there))) (.cons (.imp (.pick (A := cel true b5 68 _) (by repeat (first | with_reducible exact Pick.here | with_reducible apply Pick.there))) (fun r h => by simp only [Nat.one_ne_zero, if_false]; simpa using h)) (.cons (.imp (.pick (A := sl true 1 (.slice ma2 _ _) _ _) (by repeat (first | with_reducible exact Pick.here | with_reducible apply Pick.there))) (fun r h => by simp only [Nat.one_ne_zero, if_false]; simpa using h)) (.cons (.pick (A := cel true b6 123 _) (by repeat (first | with_reducible exact Pick.here | with_reducible apply Pick.there))) (.cons (.pick (A := mapA encK r1 _) (by repeat (first | with_reducible exact Pick.here | with_reducible apply Pick.there))) (.cons (.pick (A := mapA encU r2 _) (by repeat (first | with_reducible exact Pick.here | with_reducible apply Pick.there))) (.cons (.pick (A := mapA encK r3 _) (by repeat (first | with_reducible exact Pick.here | with_reducible apply Pick.there))) (.cons (.pick (A := mapA encH r4 _) (by repeat (first | with_reducible exact Pick.here | with_reducible apply Pick.there))) (.cons (.pick (A := sl true 5 _ _ _) (by repeat (first | with_reducible exact Pick.here | with_reducible apply Pick.there))) .nil))))))))))))
  · have hi0 : i = 1 := by simp only at hlt; omega
    subst hi0
    simp only [Nat.one_ne_zero, if_false]
    refine G.exit ?_
    refine G.x_exit_then (G.x_exit_then ?_)
    refine G.x_exit_block (G.x_then ?_)
    refine G.unframe (by repeat (first | exact App.nil | apply App.cons)) ?_
    refine G.seq ?_
    refine G.draw Try_mixed (.still 0 (.still 1 (.still 2 (.still 3 (.still 4 (.loud 5 false (.done))))))) (by kernel_rfl) (Picks.refl _) ?_
    refine GO.yld (i := 0) rfl (by decide) (Yld.move rfl) ?_
    refine GO.yld (i := 1) rfl (by decide) (Yld.nilCheck rfl) ?_
    refine GO.yld (i := 2) rfl (by decide) (Yld.fieldAddr Try_fo118_1 rfl) ?_
    refine GO.yld (i := 3) rfl (by decide) (Yld.load rfl Try.isAgg112 (by repeat (first | with_reducible exact Pick.here | with_reducible apply Pick.there)) rfl) ?_
    refine GO.yld (i := 4) rfl (by decide) (Yld.loadAgg (cs := [_, _, _]) rfl Try.isAgg123 Try.sizeOf123 (by repeat (first | with_reducible exact Pick.here | with_reducible apply Pick.there)) rfl (aggAt rfl)) ?_
    refine GO.x ?_
    refine GX.op0 (i := 5) rfl  (OpC.mapDelete (k := ((c.stream, c.loose, c.mid) : Key)) key123 Try.runUnderlying112 rfl rfl (show Pick _ (mapA encK r1 _) _ from by repeat (first | with_reducible exact Pick.here | with_reducible apply Pick.there))) fun _ => ?_
    rw [show adel [(((c.stream, c.loose, c.mid) : Key), wv)] ((c.stream, c.loose, c.mid) : Key) = [] by simp [adel]]
    refine GX.done ?_
    refine G.seq ?_
    refine G.seq ?_
    rcases hq with hq | ⟨hq0, hq⟩
    · refine G.region ?_
      refine G.yld (by decide) (Yld.fieldAddr Try_fo68_1 rfl) ?_
      refine G.yld (by decide) (Yld.load rfl Try.isAgg4 (by repeat (first | with_reducible exact Pick.here | with_reducible apply Pick.there)) rfl) ?_
      refine G.as (t := 58) (v := .bool true) rfl (congrArg Value.bool hq) ?_
      refine G.done ?_
      refine G.condT rfl ?_
      refine G.seq ?_
      refine G.draw Try_mixed (.still 0 (.still 1 (.still 2 (.still 3 (.still 4 (.still 5 (.loud 6 true (.loud 7 true (.loud 8 false (.loud 9 false (.loud 10 false (.done)))))))))))) (by kernel_rfl) (.cons (show Pick _ (cel true b 118 _) _ from by repeat (first | with_reducible exact Pick.here | with_reducible apply Pick.there)) (.cons (show Pick _ (cel true b5 68 _) _ from by repeat (first | with_reducible exact Pick.here | with_reducible apply Pick.there)) .nil)) ?_
      refine GO.yld (i := 0) rfl (by decide) (Yld.move rfl) ?_
      refine GO.yld (i := 1) rfl (by decide) (Yld.move rfl) ?_
      refine GO.yld (i := 2) rfl (by decide) (Yld.nilCheck rfl) ?_
      refine GO.yld (i := 3) rfl (by decide) (Yld.fieldAddr Try_fo118_5 rfl) ?_
      refine GO.yld (i := 4) rfl (by decide) (Yld.load rfl Try.isAgg116 (by repeat (first | with_reducible exact Pick.here | with_reducible apply Pick.there)) rfl) ?_
      refine GO.yld (i := 5) rfl (by decide) (Yld.loadAgg (cs := [_, _, _, _, _]) rfl Try.isAgg68 Try.sizeOf68 (by repeat (first | with_reducible exact Pick.here | with_reducible apply Pick.there)) rfl (aggAt rfl)) ?_
      refine GO.opc (i := 6) rfl (by decide) (OpC.buildOne (cs := [_, _, _, _, _]) Try.runUnderlying116 Try.sizeOf68 Try.zeroValue68 rfl rfl rfl rfl (by decide)) (fun _ => (.cons (show Pick _ (cel true b 118 _) _ from by repeat (first | with_reducible exact Pick.here | with_reducible apply Pick.there)) (.cons (show Pick _ (cel true b5 68 _) _ from by repeat (first | with_reducible exact Pick.here | with_reducible apply Pick.there)) .nil))) fun bl => ?_
      refine GO.fold (A := sl true 5 (.slice (some ⟨bl, 0, none⟩) 1 1) 1 (msgv (msgOf c ma mc body))) (.imp (.pick (A := cel _ bl _ _) (by repeat (first | with_reducible exact Pick.here | with_reducible apply Pick.there))) (fun r h => sl_row (k := 5) (n := 1) rfl r (by exact h))) ?_
      refine GO.opc (i := 7) rfl (by decide) (OpC.appendE (kk := 5) (bytes := 40) Try.underlying116 Try.type68 rfl rfl rfl rfl rfl Try.underlying116 rfl rfl (show Pick _ (sl true 5 (.slice ra _ _) _ _) _ from by repeat (first | with_reducible exact Pick.here | with_reducible apply Pick.there)) (by repeat (first | with_reducible exact Pick.here | with_reducible apply Pick.there)) rfl (room_of _ _ (by decide) (by omega)) rfl (msgc_snoc _ _)) (fun _ => (.cons (show Pick _ (cel true b 118 _) _ from by repeat (first | with_reducible exact Pick.here | with_reducible apply Pick.there)) (.cons (show Pick _ (cel true b5 68 _) _ from by repeat (first | with_reducible exact Pick.here | with_reducible apply Pick.there)) .nil))) fun vg => ?_
      refine GO.fact (A := sl true 5 vg _ _) (by repeat (first | with_reducible exact Pick.here | with_reducible apply Pick.there)) sl_cell fun hvg => ?_
      refine GO.x ?_
      refine GX.yld (i := 8) rfl (by decide) (Yld.nilCheck rfl) ?_
      refine GX.yld (i := 9) rfl (by decide) (Yld.fieldAddr Try_fo118_5 rfl) ?_
      refine GX.op0 (i := 10) rfl  (OpC.storeS (.succ (.succ (.succ (.succ (.succ .zero))))) Try.sizeOf116 rfl rfl hvg (by repeat (first | with_reducible exact Pick.here | with_reducible apply Pick.there))) fun _ => ?_
      refine GX.done ?_
      refine G.pick (A := sl true 5 vg _ _) (by repeat (first | with_reducible exact Pick.here | with_reducible apply Pick.there)) (G.slv fun ra2 rc2 hvg2 hlg hcg => ?_)
      subst hvg2
      refine G.ret ?_
      refine G.ret0 (.inr rfl) Try.results61 ?_
      exact ⟨_, (.ex (ma, mc, ra2, rc2) (.star (.imp (.pick (A := cel true b 118 _) (by repeat (first | with_reducible exact Pick.here | with_reducible apply Pick.there))) (fun r h => by simp only [List.length_append, List.length_singleton]; exact h)) (.star (.pick (by repeat (first | with_reducible exact Pick.here | with_reducible apply Pick.there))) (.star (.pick (by repeat (first | with_reducible exact Pick.here | with_reducible apply Pick.there))) (.star (.pick (by repeat (first | with_reducible exact Pick.here | with_reducible apply Pick.there))) (.star (by simp only [nxP, hq, if_true]; exact (.pick (by repeat (first | with_reducible exact Pick.here | with_reducible apply Pick.there)))) (.star (.imp (.pick (A := sl true 5 (.slice ra2 _ _) _ _) (by repeat (first | with_reducible exact Pick.here | with_reducible apply Pick.there))) (fun r h => by simp only [List.length_append, List.length_singleton]; exact h)) (.imp (.pick (A := sl true 1 (.slice ma _ _) _ _) (by repeat (first | with_reducible exact Pick.here | with_reducible apply Pick.there))) (fun r h => by exact h)))))))))⟩
    · refine G.region ?_
      refine G.yld (by decide) (Yld.fieldAddr Try_fo68_1 rfl) ?_
      refine G.yld (by decide) (Yld.load rfl Try.isAgg4 (by repeat (first | with_reducible exact Pick.here | with_reducible apply Pick.there)) rfl) ?_
      refine G.as (t := 58) (v := .bool false) rfl (congrArg Value.bool hq0) ?_
      refine G.done ?_
      refine G.condF rfl ?_
      refine G.skip ?_
      refine G.seq ?_
      refine G.draw Try_mixed (.still 0 (.still 1 (.still 2 (.still 3 (.still 4 (.still 5 (.loud 6 false (.done)))))))) (by kernel_rfl) (Picks.refl _) ?_
      refine GO.yld (i := 0) rfl (by decide) (Yld.move rfl) ?_
      refine GO.yld (i := 1) rfl (by decide) (Yld.nilCheck rfl) ?_
      refine GO.yld (i := 2) rfl (by decide) (Yld.fieldAddr Try_fo118_3 rfl) ?_
      refine GO.yld (i := 3) rfl (by decide) (Yld.load rfl Try.isAgg114 (by repeat (first | with_reducible exact Pick.here | with_reducible apply Pick.there)) rfl) ?_
      refine GO.yld (i := 4) rfl (by decide) (Yld.loadAgg (cs := [_, _, _]) rfl Try.isAgg123 Try.sizeOf123 (by repeat (first | with_reducible exact Pick.here | with_reducible apply Pick.there)) rfl (aggAt rfl)) ?_
      refine GO.yld (i := 5) rfl (by decide) (Yld.loadAgg (cs := [_, _, _, _, _]) rfl Try.isAgg68 Try.sizeOf68 (by repeat (first | with_reducible exact Pick.here | with_reducible apply Pick.there)) rfl (aggAt rfl)) ?_
      refine GO.x ?_
      refine GX.op0 (i := 6) rfl  (OpC.mapUpdate (k := ((c.stream, c.loose, c.mid) : Key)) key123 Try.runUnderlying114 rfl rfl rfl (show Pick _ (mapA encK r3 _) _ from by repeat (first | with_reducible exact Pick.here | with_reducible apply Pick.there))) fun _ => ?_
      rw [show aset ([] : List (Key × Value)) ((c.stream, c.loose, c.mid) : Key) (.agg (msgv (msgOf c ma mc body)).toArray) = [(((c.stream, false, c.mid) : Key), .agg (msgv (msgOf c ma mc body)).toArray)] by simp only [aset, hq0]]
      refine GX.done ?_
      refine G.region ?_
      refine G.yld (by decide) (Yld.move rfl) ?_
      refine G.yld (by decide) (Yld.fieldAddr Try_fo68_0 rfl) ?_
      refine G.yld (by decide) (Yld.load rfl Try.isAgg30 (by repeat (first | with_reducible exact Pick.here | with_reducible apply Pick.there)) rfl) ?_
      refine G.opc (by decide) (OpC.call Try.call70 rfl (jOnward_spec b r1 r2 r3 r4 ra rc nx ms (msgOf c ma mc body) c.stream hq hsm) (.cons (by repeat (first | with_reducible exact Pick.here | with_reducible apply Pick.there)) (.cons (by repeat (first | with_reducible exact Pick.here | with_reducible apply Pick.there)) (.cons (by repeat (first | with_reducible exact Pick.here | with_reducible apply Pick.there)) (.cons (by repeat (first | with_reducible exact Pick.here | with_reducible apply Pick.there)) .nil))))) fun _ => ?_
      refine G.ex fun x => ?_
      refine G.star4 ?_
      obtain ⟨ra2, rc2⟩ := x
      refine G.done ?_
      refine G.nil ?_
      refine G.ret0 (.inl rfl) Try.results61 ?_
      exact ⟨_, (.ex (ma, mc, ra2, rc2) (.star (.imp (.pick (A := cel true b 118 _) (by repeat (first | with_reducible exact Pick.here | with_reducible apply Pick.there))) (fun r h => by exact h)) (.star (.pick (by repeat (first | with_reducible exact Pick.here | with_reducible apply Pick.there))) (.star (.pick (by repeat (first | with_reducible exact Pick.here | with_reducible apply Pick.there))) (.star (.pick (by repeat (first | with_reducible exact Pick.here | with_reducible apply Pick.there))) (.star (by simp only [nxP, hq0, Bool.false_eq_true, if_false]; exact (.pick (by repeat (first | with_reducible exact Pick.here | with_reducible apply Pick.there)))) (.star (.imp (.pick (A := sl true 5 (.slice ra2 _ _) _ _) (by repeat (first | with_reducible exact Pick.here | with_reducible apply Pick.there))) (fun r h => by exact h)) (.imp (.pick (A := sl true 1 (.slice ma _ _) _ _) (by repeat (first | with_reducible exact Pick.here | with_reducible apply Pick.there))) (fun r h => by exact h)))))))))⟩
end Go.Fl
