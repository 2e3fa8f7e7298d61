/- Contracts, printed by a program of mine and proved by Lean. -/
import Derived.Test.YtogemllbdkbjkaaFlFlightF
import Derived.Test.YtogemllbdkbjkaaFlA3
set_option linter.unusedVariables false
set_option linter.unusedSimpArgs false
namespace Go.Fl
open Go Go.Sl Go.Proofs
set_option maxRecDepth 10000
set_option linter.unusedVariables false
theorem own_spec (c : Ck) (v0 : Value) (body : List UInt8) (hb : body.length ≤ 70000) : Sl.Spec Try.prog 39 [(ckV c v0)].toArray [bys v0 body] (fun v => ex fun bv => star (lift (v = ckV c bv)) (star (byo bv body) (bys v0 body))) := by
  refine Sl.Spec.of_body (vs := [(ckV c v0)]) Try.func39 Try.ntmps39 (Nat.le_of_ble_eq_true rfl) rfl fun w0 F => ?_
  refine G.seq ?_
  refine G.region ?_
  refine G.opc (by decide) (OpC.box (cs := (ckv c nilS nilS nilS nilS v0)) rfl rfl) fun b1 => ?_
  refine G.opc (by decide) (OpC.alloc (cs := [.int .u8 0, .bool false, .bool false, .bool false, .bool false, .int .u32 0, .int .u16 0, .int .u32 0, .int .u32 0, .int .u32 0, .int .u32 0, .int .u32 0, .int .u16 0, .int .u16 0, .slice none 0 0, .slice none 0 0, .slice none 0 0, .slice none 0 0, .slice none 0 0]) Try.zeroValue36 rfl) fun b2 => ?_
  refine G.done ?_
  refine G.seq ?_
  refine G.draw Try_mixed (.still 0 (.still 1 (.still 3 (.still 4 (.still 6 (.still 7 (.still 9 (.still 10 (.loud 2 true (.still 12 (.loud 5 true (.loud 8 true (.loud 11 true (.loud 13 false (.loud 14 false (.loud 15 false (.loud 16 false (.loud 17 false (.loud 18 false (.loud 19 false (.done))))))))))))))))))))) (by kernel_rfl) (.cons (A := cel _ b1 _ _) (by repeat (first | with_reducible exact Pick.here | with_reducible apply Pick.there)) .nil) ?_
  refine GO.yld (i := 0) rfl (by decide) (Yld.fieldAddr Try_fo36_14 rfl) ?_
  refine GO.yld (i := 1) rfl (by decide) (Yld.load rfl Try.isAgg31 (by repeat (first | with_reducible exact Pick.here | with_reducible apply Pick.there)) rfl) ?_
  refine GO.yld (i := 3) rfl (by decide) (Yld.fieldAddr Try_fo36_15 rfl) ?_
  refine GO.yld (i := 4) rfl (by decide) (Yld.load rfl Try.isAgg32 (by repeat (first | with_reducible exact Pick.here | with_reducible apply Pick.there)) rfl) ?_
  refine GO.yld (i := 6) rfl (by decide) (Yld.fieldAddr Try_fo36_16 rfl) ?_
  refine GO.yld (i := 7) rfl (by decide) (Yld.load rfl Try.isAgg33 (by repeat (first | with_reducible exact Pick.here | with_reducible apply Pick.there)) rfl) ?_
  refine GO.yld (i := 9) rfl (by decide) (Yld.fieldAddr Try_fo36_18 rfl) ?_
  refine GO.yld (i := 10) rfl (by decide) (Yld.load rfl Try.isAgg23 (by repeat (first | with_reducible exact Pick.here | with_reducible apply Pick.there)) rfl) ?_
  refine GO.opc (i := 2) rfl (by decide) (OpC.call Try.call72 rfl (cloneG_nil) .nil) (fun _ => (.cons (A := cel _ b1 _ _) (by repeat (first | with_reducible exact Pick.here | with_reducible apply Pick.there)) .nil)) fun v => ?_
  refine GO.lift ?_
  rintro rfl
  refine GO.yld (i := 12) rfl (by decide) (Yld.fieldAddr Try_fo36_14 rfl) ?_
  refine GO.opc (i := 5) rfl (by decide) (OpC.call Try.call52 rfl (cloneU_nil) .nil) (fun _ => (.cons (A := cel _ b1 _ _) (by repeat (first | with_reducible exact Pick.here | with_reducible apply Pick.there)) .nil)) fun v => ?_
  refine GO.lift ?_
  rintro rfl
  refine GO.opc (i := 8) rfl (by decide) (OpC.call Try.call73 rfl (cloneK_nil) .nil) (fun _ => (.cons (A := cel _ b1 _ _) (by repeat (first | with_reducible exact Pick.here | with_reducible apply Pick.there)) .nil)) fun v => ?_
  refine GO.lift ?_
  rintro rfl
  refine GO.opc (i := 11) rfl (by decide) (OpC.call Try.call60 rfl (cloneB (m := false) (n := body.length) (cs := byc body) _ (byc_cell _) (room_of _ _ (by decide) (by omega))) (.cons (A := sl false _ v0 _ _) (by repeat (first | with_reducible exact Pick.here | with_reducible apply Pick.there)) .nil)) (fun _ => (.cons (A := cel _ b1 _ _) (by repeat (first | with_reducible exact Pick.here | with_reducible apply Pick.there)) .nil)) fun bv => ?_
  refine GO.star ?_
  refine GO.x ?_
  refine GX.op0 (i := 13) rfl  (OpC.storeS (.succ (.succ (.succ (.succ (.succ (.succ (.succ (.succ (.succ (.succ (.succ (.succ (.succ (.succ .zero)))))))))))))) Try.sizeOf31 rfl rfl rfl (by repeat (first | with_reducible exact Pick.here | with_reducible apply Pick.there))) fun _ => ?_
  refine GX.yld (i := 14) rfl (by decide) (Yld.fieldAddr Try_fo36_15 rfl) ?_
  refine GX.op0 (i := 15) rfl  (OpC.storeS (.succ (.succ (.succ (.succ (.succ (.succ (.succ (.succ (.succ (.succ (.succ (.succ (.succ (.succ (.succ .zero))))))))))))))) Try.sizeOf32 rfl rfl rfl (by repeat (first | with_reducible exact Pick.here | with_reducible apply Pick.there))) fun _ => ?_
  refine GX.yld (i := 16) rfl (by decide) (Yld.fieldAddr Try_fo36_16 rfl) ?_
  refine GX.op0 (i := 17) rfl  (OpC.storeS (.succ (.succ (.succ (.succ (.succ (.succ (.succ (.succ (.succ (.succ (.succ (.succ (.succ (.succ (.succ (.succ .zero)))))))))))))))) Try.sizeOf33 rfl rfl rfl (by repeat (first | with_reducible exact Pick.here | with_reducible apply Pick.there))) fun _ => ?_
  refine GX.yld (i := 18) rfl (by decide) (Yld.fieldAddr Try_fo36_18 rfl) ?_
  refine GX.fact (A := sl true _ bv _ _) (by repeat (first | with_reducible exact Pick.here | with_reducible apply Pick.there)) sl_cell fun hbv => ?_
  refine GX.op0 (i := 19) rfl  (OpC.storeS (.succ (.succ (.succ (.succ (.succ (.succ (.succ (.succ (.succ (.succ (.succ (.succ (.succ (.succ (.succ (.succ (.succ (.succ .zero)))))))))))))))))) Try.sizeOf23 rfl rfl hbv (by repeat (first | with_reducible exact Pick.here | with_reducible apply Pick.there))) fun _ => ?_
  refine GX.done ?_
  refine G.seq ?_
  refine G.region ?_
  refine G.yld (by decide) (Yld.fieldAddr Try_fo36_17 rfl) ?_
  refine G.yld (by decide) (Yld.load rfl Try.isAgg34 (by repeat (first | with_reducible exact Pick.here | with_reducible apply Pick.there)) rfl) ?_
  refine G.yld (by decide) (Yld.assign rfl) ?_
  refine G.done ?_
  refine G.seq ?_
  refine G.region ?_
  refine G.yld (by decide) (Yld.fieldAddr Try_fo36_17 rfl) ?_
  refine G.op0  (OpC.storeS (.succ (.succ (.succ (.succ (.succ (.succ (.succ (.succ (.succ (.succ (.succ (.succ (.succ (.succ (.succ (.succ (.succ .zero))))))))))))))))) Try.sizeOf34 rfl rfl rfl (by repeat (first | with_reducible exact Pick.here | with_reducible apply Pick.there))) fun _ => ?_
  refine G.done ?_
  refine G.seq ?_
  refine G.seq ?_
  refine G.region ?_
  refine G.yld (by decide) (Yld.move rfl) ?_
  refine G.yld (by decide) (Yld.len_slice Try.runUnderlying34 rfl) ?_
  refine G.yld (by decide) (Yld.move rfl) ?_
  refine G.done ?_
  refine G.block ?_
  refine G.loopE (X := Unit) (fun _ => [(1, ptr b1), (2, ptr b2), (25, nilS), (26, vI 0), (27, vI 0)]) (fun _ => [emp]) (fun _ => 0) () (.cons (t := 1) rfl (.cons (t := 2) rfl (.cons (t := 25) rfl (.cons (t := 26) rfl (.cons (t := 27) rfl .nil))))) (.cons .emp .nil) fun _u => ?_
  refine G.seq ?_
  refine G.region ?_
  refine G.yld (by decide) (Yld.lss_i rfl rfl) ?_
  refine G.done ?_
  refine G.seq ?_
  refine G.condP rfl (fun h0 => ?_) (fun h0 => ?_)
  · exact absurd h0 (by decide)
  · refine G.exit ?_
    refine G.x_exit_then (G.x_exit_then ?_)
    refine G.x_exit_block (G.x_then ?_)
    refine G.unframe (by repeat (first | exact App.nil | apply App.cons)) ?_
    refine G.seq ?_
    refine G.region ?_
    refine G.yld (by decide) (Yld.loadAgg (cs := [_, _, _, _, _, _, _, _, _, _, _, _, _, _, _, _, _, _, _]) rfl Try.isAgg36 Try.sizeOf36 (by repeat (first | with_reducible exact Pick.here | with_reducible apply Pick.there)) rfl (aggAt rfl)) ?_
    refine G.op0  (OpC.storeAgg (k := 19) Try.sizeOf36 rfl rfl rfl (by simp only [List.all_cons, List.all_nil, hbv]; rfl) (by repeat (first | with_reducible exact Pick.here | with_reducible apply Pick.there)) (setWhole rfl) (Nat.le_of_ble_eq_true rfl)) fun _ => ?_
    refine G.done ?_
    refine G.ret ?_
    refine G.ret1 (.inr rfl) Try.results39 (.agg (cs := [_, _, _, _, _, _, _, _, _, _, _, _, _, _, _, _, _, _, _]) rfl Try.isAgg36 Try.sizeOf36 (by repeat (first | with_reducible exact Pick.here | with_reducible apply Pick.there)) rfl (aggAt rfl)) ?_
    exact ⟨_, (.ex bv (.star (.lift rfl) (.star (.pick (by repeat (first | with_reducible exact Pick.here | with_reducible apply Pick.there))) (.pick (by repeat (first | with_reducible exact Pick.here | with_reducible apply Pick.there))))))⟩
theorem send_spec (b : Nat) (f : Fm) (m lk : Int) (ln : UInt32) (c : Ck) (v0 : Value) (body : List UInt8) (now : UInt32) (hf : f.ok) (hb : body.length ≤ 70000) : Sl.Spec Try.prog 14 [ptr b, vI m, .agg #[vI lk, vU32 ln], (ckV c v0), vU32 now].toArray [isF b f, bys v0 body] (fun v => ex fun bv => star (lift (v = ckV (c.tsnAt f.next) bv)) (star (byo bv body) (isF b (f.send m lk ln c body now)))) := by
  refine Sl.Spec.of_body (vs := [ptr b, vI m, .agg #[vI lk, vU32 ln], (ckV c v0), vU32 now]) Try.func14 Try.ntmps14 (Nat.le_of_ble_eq_true rfl) rfl fun w0 F => ?_
  have hsmall := hf.len
  refine G.seq ?_
  refine G.region ?_
  refine G.opc (by decide) (OpC.box (cs := [vI lk, vU32 ln]) rfl rfl) fun b7 => ?_
  refine G.opc (by decide) (OpC.box (cs := (ckv c nilS nilS nilS nilS v0)) rfl rfl) fun b8 => ?_
  refine G.opc (by decide) (OpC.alloc (cs := [.int .u8 0, .bool false, .bool false, .bool false, .bool false, .int .u32 0, .int .u16 0, .int .u32 0, .int .u32 0, .int .u32 0, .int .u32 0, .int .u32 0, .int .u16 0, .int .u16 0, .slice none 0 0, .slice none 0 0, .slice none 0 0, .slice none 0 0, .slice none 0 0]) Try.zeroValue36 rfl) fun b10 => ?_
  refine G.done ?_
  refine G.seq ?_
  refine G.region ?_
  refine G.yld (by decide) (Yld.loadAgg (cs := [_, _, _, _, _, _, _, _, _, _, _, _, _, _, _, _, _, _, _]) rfl Try.isAgg36 Try.sizeOf36 (by repeat (first | with_reducible exact Pick.here | with_reducible apply Pick.there)) rfl (aggAt rfl)) ?_
  refine G.opc (by decide) (OpC.call Try.call39 rfl (own_spec _ _ body hb) (.cons (A := sl false _ v0 _ _) (by repeat (first | with_reducible exact Pick.here | with_reducible apply Pick.there)) .nil)) fun v => ?_
  refine G.ex fun bv => ?_
  refine G.star ?_
  refine G.lift ?_
  rintro rfl
  refine G.star ?_
  refine G.fact (A := sl true _ bv _ _) (by repeat (first | with_reducible exact Pick.here | with_reducible apply Pick.there)) sl_cell fun hbv => ?_
  refine G.share (v := bv) (by repeat (first | with_reducible exact Pick.here | with_reducible apply Pick.there)) ?_
  refine G.op0  (OpC.storeAgg (k := 19) Try.sizeOf36 rfl rfl rfl (by simp only [List.all_cons, List.all_nil, hbv]; rfl) (by repeat (first | with_reducible exact Pick.here | with_reducible apply Pick.there)) (setWhole rfl) (Nat.le_of_ble_eq_true rfl)) fun _ => ?_
  refine G.done ?_
  refine G.seq ?_
  refine G.region ?_
  refine G.yld (by decide) (Yld.move rfl) ?_
  refine G.opc (by decide) (OpC.call Try.call37 rfl (flNext_spec _ _) (.cons (by repeat (first | with_reducible exact Pick.here | with_reducible apply Pick.there)) .nil)) fun v => ?_
  refine G.star ?_
  refine G.lift ?_
  rintro rfl
  refine G.yld (by decide) (Yld.fieldAddr Try_fo36_5 rfl) ?_
  refine G.op0  (OpC.storeS (.succ (.succ (.succ (.succ (.succ .zero))))) Try.sizeOf22 rfl rfl rfl (by repeat (first | with_reducible exact Pick.here | with_reducible apply Pick.there))) fun _ => ?_
  refine G.done ?_
  refine G.seq ?_
  refine G.pick (A := isF b f) (by repeat (first | with_reducible exact Pick.here | with_reducible apply Pick.there)) ?_
  refine G.openF fun v bs r hlen => ?_
  refine G.pick (A := sl true 1 v _ _) (by repeat (first | with_reducible exact Pick.here | with_reducible apply Pick.there)) (G.slv fun a cap hv hle hl => ?_)
  obtain rfl := hv
  refine G.draw Try_mixed (.still 0 (.still 1 (.still 2 (.still 3 (.still 4 (.still 5 (.still 6 (.still 7 (.still 8 (.still 9 (.loud 10 true (.loud 11 true (.loud 12 true (.still 13 (.still 14 (.loud 15 false (.done))))))))))))))))) (by kernel_rfl) (.cons (A := cel _ b _ _) (by repeat (first | with_reducible exact Pick.here | with_reducible apply Pick.there)) (.cons (A := cel _ b8 _ _) (by repeat (first | with_reducible exact Pick.here | with_reducible apply Pick.there)) (.cons (A := cel _ b7 _ _) (by repeat (first | with_reducible exact Pick.here | with_reducible apply Pick.there)) .nil))) ?_
  refine GO.yld (i := 0) rfl (by decide) (Yld.move rfl) ?_
  refine GO.yld (i := 1) rfl (by decide) (Yld.move rfl) ?_
  refine GO.yld (i := 2) rfl (by decide) (Yld.nilCheck rfl) ?_
  refine GO.yld (i := 3) rfl (by decide) (Yld.fieldAddr Try_fo87_1 rfl) ?_
  refine GO.yld (i := 4) rfl (by decide) (Yld.load rfl Try.isAgg85 (by repeat (first | with_reducible exact Pick.here | with_reducible apply Pick.there)) rfl) ?_
  refine GO.yld (i := 5) rfl (by decide) (Yld.loadAgg (cs := [_, _, _, _, _, _, _, _, _, _, _, _, _, _, _, _, _, _, _]) rfl Try.isAgg36 Try.sizeOf36 (by repeat (first | with_reducible exact Pick.here | with_reducible apply Pick.there)) rfl (aggAt rfl)) ?_
  refine GO.yld (i := 6) rfl (by decide) (Yld.move rfl) ?_
  refine GO.yld (i := 7) rfl (by decide) (Yld.loadAgg (cs := [_, _]) rfl Try.isAgg46 Try.sizeOf46 (by repeat (first | with_reducible exact Pick.here | with_reducible apply Pick.there)) rfl (aggAt rfl)) ?_
  refine GO.yld (i := 8) rfl (by decide) (Yld.move rfl) ?_
  refine GO.yld (i := 9) rfl (by decide) (Yld.buildS (cs := [_, _, _, _, _, _, _, _, _, _, _, _, _, _, _, _, _, _, _, _, _, _, _, _, _, _]) Try_z93 Try_pl93 rfl rfl (.cons rfl rfl (Nat.le_of_ble_eq_true rfl) (.cons rfl rfl (Nat.le_of_ble_eq_true rfl) (.cons rfl rfl (Nat.le_of_ble_eq_true rfl) (.cons rfl rfl (Nat.le_of_ble_eq_true rfl) (.cons rfl rfl (Nat.le_of_ble_eq_true rfl) .nil))))) rfl) ?_
  refine GO.opc (i := 10) rfl (by decide) (OpC.box (cs := (pcv (f.newP m lk ln c body now) bv)) rfl rfl) (fun _ => (.cons (A := cel _ b _ _) (by repeat (first | with_reducible exact Pick.here | with_reducible apply Pick.there)) (.cons (A := cel _ b8 _ _) (by repeat (first | with_reducible exact Pick.here | with_reducible apply Pick.there)) (.cons (A := cel _ b7 _ _) (by repeat (first | with_reducible exact Pick.here | with_reducible apply Pick.there)) .nil)))) fun bp => ?_
  refine GO.opc (i := 11) rfl (by decide) (OpC.buildOne (cs := [_]) Try.runUnderlying85 Try.sizeOf89 Try.zeroValue89 rfl rfl rfl rfl (by decide)) (fun _ => (.cons (A := cel _ b _ _) (by repeat (first | with_reducible exact Pick.here | with_reducible apply Pick.there)) (.cons (A := cel _ b8 _ _) (by repeat (first | with_reducible exact Pick.here | with_reducible apply Pick.there)) (.cons (A := cel _ b7 _ _) (by repeat (first | with_reducible exact Pick.here | with_reducible apply Pick.there)) .nil)))) fun bn => ?_
  refine GO.fold (.imp (.pick (A := cel _ bn _ _) (by repeat (first | with_reducible exact Pick.here | with_reducible apply Pick.there))) (sl_row (k := 1) (n := 1) rfl)) ?_
  refine GO.opc (i := 12) rfl (by decide) (OpC.appendE (kk := 1) (bytes := 8) Try.underlying85 Try.type89 rfl rfl rfl rfl rfl Try.underlying85 rfl rfl (by repeat (first | with_reducible exact Pick.here | with_reducible apply Pick.there)) (by repeat (first | with_reducible exact Pick.here | with_reducible apply Pick.there)) rfl (room_of _ _ (by decide) (by omega)) rfl (ptc_snoc bs bp)) (fun _ => (.cons (A := cel _ b _ _) (by repeat (first | with_reducible exact Pick.here | with_reducible apply Pick.there)) (.cons (A := cel _ b8 _ _) (by repeat (first | with_reducible exact Pick.here | with_reducible apply Pick.there)) (.cons (A := cel _ b7 _ _) (by repeat (first | with_reducible exact Pick.here | with_reducible apply Pick.there)) .nil)))) fun va => ?_
  refine GO.fact (A := sl true _ va _ _) (by repeat (first | with_reducible exact Pick.here | with_reducible apply Pick.there)) sl_cell fun hva => ?_
  refine GO.yld (i := 13) rfl (by decide) (Yld.nilCheck rfl) ?_
  refine GO.yld (i := 14) rfl (by decide) (Yld.fieldAddr Try_fo87_1 rfl) ?_
  refine GO.x ?_
  refine GX.op0 (i := 15) rfl  (OpC.storeS (.succ .zero) Try.sizeOf85 rfl rfl hva (by repeat (first | with_reducible exact Pick.here | with_reducible apply Pick.there))) fun _ => ?_
  refine GX.done ?_
  refine G.seq ?_
  refine G.region ?_
  refine G.yld (by decide) (Yld.loadAgg (cs := [_, _, _, _, _, _, _, _, _, _, _, _, _, _, _, _, _, _, _]) rfl Try.isAgg36 Try.sizeOf36 (by repeat (first | with_reducible exact Pick.here | with_reducible apply Pick.there)) rfl (aggAt rfl)) ?_
  refine G.opc (by decide) (OpC.call Try.call39 rfl (own_spec (c.tsnAt f.next) _ body hb) (.cons (A := sl false _ bv _ _) (by repeat (first | with_reducible exact Pick.here | with_reducible apply Pick.there)) .nil)) fun v => ?_
  refine G.ex fun bv2 => ?_
  refine G.star ?_
  refine G.lift ?_
  rintro rfl
  refine G.star ?_
  refine G.fact (A := sl true _ bv2 _ _) (by repeat (first | with_reducible exact Pick.here | with_reducible apply Pick.there)) sl_cell fun hbv2 => ?_
  refine G.op0  (OpC.storeAgg (k := 19) Try.sizeOf36 rfl rfl rfl (by simp only [List.all_cons, List.all_nil, hbv2]; rfl) (by repeat (first | with_reducible exact Pick.here | with_reducible apply Pick.there)) (setWhole rfl) (Nat.le_of_ble_eq_true rfl)) fun _ => ?_
  refine G.done ?_
  refine G.ret ?_
  refine G.ret1 (.inr rfl) Try.results14 (.agg (cs := [_, _, _, _, _, _, _, _, _, _, _, _, _, _, _, _, _, _, _]) rfl Try.isAgg36 Try.sizeOf36 (by repeat (first | with_reducible exact Pick.here | with_reducible apply Pick.there)) rfl (aggAt rfl)) ?_
  exact ⟨_, (.ex bv2 (.star (.lift rfl) (.star (.pick (by repeat (first | with_reducible exact Pick.here | with_reducible apply Pick.there))) (entF (f := f.send m lk ln c body now) (.pick (A := cel _ b _ _) (by repeat (first | with_reducible exact Pick.here | with_reducible apply Pick.there))) (.pick (A := sl true _ va _ _) (by repeat (first | with_reducible exact Pick.here | with_reducible apply Pick.there))) (by simp) (.imp (.star (entP (p := f.newP m lk ln c body now) (.pick (A := sl false _ bv _ _) (by repeat (first | with_reducible exact Pick.here | with_reducible apply Pick.there))) (.pick (A := cel _ bp _ _) (by repeat (first | with_reducible exact Pick.here | with_reducible apply Pick.there))) rfl) (.pick (A := isPs bs _) (by repeat (first | with_reducible exact Pick.here | with_reducible apply Pick.there)))) (isPs_snoc hlen)) (.pick (by repeat (first | with_reducible exact Pick.here | with_reducible apply Pick.there)))))))⟩
end Go.Fl
