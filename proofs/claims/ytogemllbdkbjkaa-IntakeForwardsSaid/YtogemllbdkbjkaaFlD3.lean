/- Contracts, printed by a program of mine and proved by Lean. -/
import Derived.Test.YtogemllbdkbjkaaFlD2
set_option linter.unusedVariables false
set_option linter.unusedSimpArgs false
namespace Go.Fl
open Go Go.Sl Go.Proofs
set_option maxRecDepth 10000
set_option linter.unusedVariables false
theorem jTake_spec (b : Nat) (nx : List (Int × Value)) (m : Msg) (ms : List Msg) : Sl.Spec Try.prog 53 [ptr b].toArray [isJ b nx (m :: ms)] (fun v => star (lift (v = .tuple #[.agg (msgv m).toArray, .bool true])) (star (isJ b nx ms) (isB m))) := by
  refine Sl.Spec.of_body (vs := [ptr b]) Try.func53 Try.ntmps53 (Nat.le_of_ble_eq_true rfl) rfl fun w0 F => ?_
  refine G.openJ fun r1 r2 r3 r4 a c => ?_
  refine G.conv (A := isBs (m :: ms)) (by repeat (first | with_reducible exact Pick.here | with_reducible apply Pick.there)) (A' := star (isB m) (isBs ms)) (fun _ h => h) ?_
  refine G.star ?_
  refine G.fact (A := sl true 5 _ _ _) (by repeat (first | with_reducible exact Pick.here | with_reducible apply Pick.there)) sl_cap fun hcap => ?_
  simp only [List.length_cons] at hcap ⊢
  refine G.seq ?_
  refine G.region ?_
  refine G.opc (by decide) (OpC.alloc (cs := [.int .u16 0, .bool false, .int .u32 0, .int .u32 0, .slice none 0 0]) Try.zeroValue68 rfl) fun b1 => ?_
  refine G.yld (by decide) (Yld.assign rfl) ?_
  refine G.done ?_
  refine G.seq ?_
  refine G.seq ?_
  refine G.region ?_
  refine G.yld (by decide) (Yld.move rfl) ?_
  refine G.yld (by decide) (Yld.nilCheck rfl) ?_
  refine G.yld (by decide) (Yld.fieldAddr Try_fo118_5 rfl) ?_
  refine G.yld (by decide) (Yld.load rfl Try.isAgg116 (by repeat (first | with_reducible exact Pick.here | with_reducible apply Pick.there)) rfl) ?_
  refine G.yld (by decide) (Yld.len_slice Try.runUnderlying116 rfl) ?_
  refine G.yld (by decide) (Yld.eql_i (b := (0 : Int)) rfl rfl) ?_
  refine G.as (t := 10) (v := .bool false) rfl (congrArg Value.bool (decide_eq_false (by omega))) ?_
  refine G.done ?_
  refine G.condF rfl ?_
  refine G.skip ?_
  refine G.seq ?_
  refine G.region ?_
  refine G.yld (by decide) (Yld.move rfl) ?_
  refine G.yld (by decide) (Yld.nilCheck rfl) ?_
  refine G.yld (by decide) (Yld.fieldAddr Try_fo118_5 rfl) ?_
  refine G.yld (by decide) (Yld.load rfl Try.isAgg116 (by repeat (first | with_reducible exact Pick.here | with_reducible apply Pick.there)) rfl) ?_
  refine G.yld (by decide) (Yld.indexE Try.runUnderlying116 Try.sizeOf68 rfl rfl (by repeat (first | with_reducible exact Pick.here | with_reducible apply Pick.there)) (by decide) (by omega) (by omega)) ?_
  refine G.yld (by decide) (Yld.loadAggE (us := (msgv m)) Try.isAgg68 Try.sizeOf68 rfl (by repeat (first | with_reducible exact Pick.here | with_reducible apply Pick.there)) rfl (by decide) (msgc_at (l := m :: ms) (i := 0) rfl)) ?_
  refine G.opc (by decide) (OpC.alloc (cs := [.int .u16 0, .bool false, .int .u32 0, .int .u32 0, .slice none 0 0]) Try.zeroValue68 rfl) fun b2 => ?_
  refine G.op0  (OpC.storeAgg (k := 5) Try.sizeOf68 rfl rfl rfl rfl (by repeat (first | with_reducible exact Pick.here | with_reducible apply Pick.there)) (setWhole rfl) (Nat.le_of_ble_eq_true rfl)) fun _ => ?_
  refine G.done ?_
  refine G.seq ?_
  refine G.region ?_
  refine G.yld (by decide) (Yld.move rfl) ?_
  refine G.yld (by decide) (Yld.move rfl) ?_
  refine G.yld (by decide) (Yld.nilCheck rfl) ?_
  refine G.yld (by decide) (Yld.fieldAddr Try_fo118_5 rfl) ?_
  refine G.yld (by decide) (Yld.load rfl Try.isAgg116 (by repeat (first | with_reducible exact Pick.here | with_reducible apply Pick.there)) rfl) ?_
  refine G.yld (by decide) (Yld.sliceFrom Try.underlying116 Try.sizeOf68 rfl rfl (by omega) (by omega)) ?_
  refine G.conv (A := sl true 5 _ _ _) (by repeat (first | with_reducible exact Pick.here | with_reducible apply Pick.there)) (A' := sl true 5 (.slice (if c = 1 then a else a.map (·.add (1 * 5))) ms.length (c - 1)) ms.length (msgc ms)) (fun r h => by have h2 := sl_from (l := 1) (by omega) r h; simp only [subS, Nat.add_sub_cancel] at h2; exact h2) ?_
  rw [show subS a (1 : Int).toNat (ms.length + 1) c 5 = .slice (if c = 1 then a else a.map (·.add (1 * 5))) ms.length (c - 1) by simp [subS]]
  refine G.yld (by decide) (Yld.nilCheck rfl) ?_
  refine G.yld (by decide) (Yld.fieldAddr Try_fo118_5 rfl) ?_
  refine G.op0  (OpC.storeS (.succ (.succ (.succ (.succ (.succ .zero))))) Try.sizeOf116 rfl rfl rfl (by repeat (first | with_reducible exact Pick.here | with_reducible apply Pick.there))) fun _ => ?_
  refine G.done ?_
  refine G.seq ?_
  refine G.region ?_
  refine G.yld (by decide) (Yld.loadAgg (cs := [_, _, _, _, _]) rfl Try.isAgg68 Try.sizeOf68 (by repeat (first | with_reducible exact Pick.here | with_reducible apply Pick.there)) rfl (aggAt rfl)) ?_
  refine G.op0  (OpC.storeAgg (k := 5) Try.sizeOf68 rfl rfl rfl rfl (by repeat (first | with_reducible exact Pick.here | with_reducible apply Pick.there)) (setWhole rfl) (Nat.le_of_ble_eq_true rfl)) fun _ => ?_
  refine G.yld (by decide) (Yld.assign rfl) ?_
  refine G.done ?_
  refine G.ret ?_
  refine G.ret2 (.inr rfl) Try.results53 (.agg (cs := [_, _, _, _, _]) rfl Try.isAgg68 Try.sizeOf68 (by repeat (first | with_reducible exact Pick.here | with_reducible apply Pick.there)) rfl (aggAt rfl)) (.tmp rfl) ?_
  exact ⟨_, (.star (.lift rfl) (.star (entJ (.pick (by repeat (first | with_reducible exact Pick.here | with_reducible apply Pick.there))) (.pick (by repeat (first | with_reducible exact Pick.here | with_reducible apply Pick.there))) (.pick (by repeat (first | with_reducible exact Pick.here | with_reducible apply Pick.there))) (.pick (by repeat (first | with_reducible exact Pick.here | with_reducible apply Pick.there))) (.pick (by repeat (first | with_reducible exact Pick.here | with_reducible apply Pick.there))) (.pick (by repeat (first | with_reducible exact Pick.here | with_reducible apply Pick.there))) (.pick (by repeat (first | with_reducible exact Pick.here | with_reducible apply Pick.there))) rfl rfl) (.pick (by repeat (first | with_reducible exact Pick.here | with_reducible apply Pick.there)))))⟩
theorem jAll_spec (b r1 r2 r3 r4 rp : Nat) (vr : Value) (k : Key) (c : Ck) (ba : Option Addr) (bc : Nat) (body : List UInt8) (hfin : c.fin = true) : Sl.Spec Try.prog 63 [ptr b, encK k].toArray [jcel b r1 r2 r3 r4 vr, mapA encK r1 [(k, .map (some rp))], mapA encU rp [(0, .agg (ckb c (.slice ba body.length bc)).toArray)]] (fun v => ex fun (x : Option Addr × Nat) => star (lift (v = .slice x.1 1 x.2)) (star (sl true 19 (.slice x.1 1 x.2) 1 (ckb c (.slice ba body.length bc))) (star (jcel b r1 r2 r3 r4 vr) (star (mapA encK r1 [(k, .map (some rp))]) (mapA encU rp [(0, .agg (ckb c (.slice ba body.length bc)).toArray)]))))) := by
  refine Sl.Spec.of_body (vs := [ptr b, encK k]) Try.func63 Try.ntmps63 (Nat.le_of_ble_eq_true rfl) rfl fun w0 F => ?_
  refine G.seq ?_
  refine G.region ?_
  refine G.opc (by decide) (OpC.box (cs := [_, _, _]) rfl rfl) fun b3 => ?_
  refine G.yld (by decide) (Yld.assign rfl) ?_
  refine G.done ?_
  refine G.seq ?_
  refine G.region ?_
  refine G.yld (by decide) (Yld.assign rfl) ?_
  refine G.done ?_
  refine G.seq ?_
  refine G.region ?_
  refine G.yld (by decide) (Yld.assign rfl) ?_
  refine G.done ?_
  refine G.block ?_
  refine G.loopE (X := Unit) (fun _ => [(0, ptr b), (3, ptr b3), (5, .slice none 0 0), (6, vU32 0)]) (fun _ => [jcel b r1 r2 r3 r4 vr, cel true b3 123 [vU16 k.1, .bool k.2.1, vU32 k.2.2], mapA encK r1 [(k, .map (some rp))], mapA encU rp [(0, .agg (ckb c (.slice ba body.length bc)).toArray)]]) (fun _ => 0) () (.cons (t := 0) rfl (.cons (t := 3) rfl (.cons (t := 5) rfl (.cons (t := 6) rfl .nil)))) (.cons (.pick (A := cel true b 118 _) (by repeat (first | with_reducible exact Pick.here | with_reducible apply Pick.there))) (.cons (.pick (A := cel true b3 123 _) (by repeat (first | with_reducible exact Pick.here | with_reducible apply Pick.there))) (.cons (.pick (by repeat (first | with_reducible exact Pick.here | with_reducible apply Pick.there))) (.cons (.pick (by repeat (first | with_reducible exact Pick.here | with_reducible apply Pick.there))) .nil)))) fun _ => ?_
  refine G.seq ?_
  refine G.block ?_
  refine G.seq ?_
  refine G.draw Try_mixed (.still 0 (.still 1 (.still 2 (.still 3 (.still 4 (.still 5 (.still 6 (.still 7 (.still 8 (.still 9 (.still 10 (.loud 11 true (.loud 12 true (.loud 13 false (.done))))))))))))))) (by kernel_rfl) (.cons (show Pick _ (jcel b r1 r2 r3 r4 vr) _ from by repeat (first | with_reducible exact Pick.here | with_reducible apply Pick.there)) (.cons (show Pick _ (cel true b3 123 [vU16 k.1, .bool k.2.1, vU32 k.2.2]) _ from by repeat (first | with_reducible exact Pick.here | with_reducible apply Pick.there)) (.cons (show Pick _ (mapA encK r1 [(k, .map (some rp))]) _ from by repeat (first | with_reducible exact Pick.here | with_reducible apply Pick.there)) (.cons (show Pick _ (mapA encU rp [(0, .agg (ckb c (.slice ba body.length bc)).toArray)]) _ from by repeat (first | with_reducible exact Pick.here | with_reducible apply Pick.there)) .nil)))) ?_
  refine GO.yld (i := 0) rfl (by decide) (Yld.move rfl) ?_
  refine GO.yld (i := 1) rfl (by decide) (Yld.nilCheck rfl) ?_
  refine GO.yld (i := 2) rfl (by decide) (Yld.fieldAddr Try_fo118_1 rfl) ?_
  refine GO.yld (i := 3) rfl (by decide) (Yld.load rfl Try.isAgg112 (by repeat (first | with_reducible exact Pick.here | with_reducible apply Pick.there)) rfl) ?_
  refine GO.yld (i := 4) rfl (by decide) (Yld.loadAgg (cs := [_, _, _]) rfl Try.isAgg123 Try.sizeOf123 (by repeat (first | with_reducible exact Pick.here | with_reducible apply Pick.there)) rfl (aggAt rfl)) ?_
  refine GO.yld (i := 5) rfl (by decide) (Yld.lookup (k := k) (z := .map none) key123 Try.runUnderlying112 Try.zeroValue113 rfl rfl (show Pick _ (mapA encK r1 _) _ from by repeat (first | with_reducible exact Pick.here | with_reducible apply Pick.there))) ?_
  rw [show (alook [(k, (.map (some rp) : Value))] k).getD (.map none) = .map (some rp) by simp [alook]]
  refine GO.yld (i := 6) rfl (by decide) (Yld.move rfl) ?_
  refine GO.yld (i := 7) rfl (by decide) (Yld.lookupS (k := (0 : Int)) key22 Try.runUnderlying113 Try.zeroValue36 rfl rfl (show Pick _ (mapA encU rp _) _ from by repeat (first | with_reducible exact Pick.here | with_reducible apply Pick.there)) rfl) ?_
  refine GO.yld (i := 8) rfl (by decide) (Yld.move rfl) ?_
  refine GO.yld (i := 9) rfl (by decide) (Yld.extract rfl rfl) ?_
  refine GO.yld (i := 10) rfl (by decide) (Yld.extract rfl rfl) ?_
  refine GO.opc (i := 11) rfl (by decide) (OpC.alloc (cs := [.int .u8 0, .bool false, .bool false, .bool false, .bool false, .int .u32 0, .int .u16 0, .int .u32 0, .int .u32 0, .int .u32 0, .int .u32 0, .int .u32 0, .int .u16 0, .int .u16 0, .slice none 0 0, .slice none 0 0, .slice none 0 0, .slice none 0 0, .slice none 0 0]) Try.zeroValue36 rfl) (fun _ => (.cons (show Pick _ (jcel b r1 r2 r3 r4 vr) _ from by repeat (first | with_reducible exact Pick.here | with_reducible apply Pick.there)) (.cons (show Pick _ (cel true b3 123 [vU16 k.1, .bool k.2.1, vU32 k.2.2]) _ from by repeat (first | with_reducible exact Pick.here | with_reducible apply Pick.there)) (.cons (show Pick _ (mapA encK r1 [(k, .map (some rp))]) _ from by repeat (first | with_reducible exact Pick.here | with_reducible apply Pick.there)) (.cons (show Pick _ (mapA encU rp [(0, .agg (ckb c (.slice ba body.length bc)).toArray)]) _ from by repeat (first | with_reducible exact Pick.here | with_reducible apply Pick.there)) .nil))))) fun b7 => ?_
  refine GO.op0 (i := 12) rfl  (OpC.storeAgg (k := 19) Try.sizeOf36 rfl rfl rfl rfl (by repeat (first | with_reducible exact Pick.here | with_reducible apply Pick.there)) (setWhole rfl) (Nat.le_of_ble_eq_true rfl)) (fun _ => (.cons (show Pick _ (jcel b r1 r2 r3 r4 vr) _ from by repeat (first | with_reducible exact Pick.here | with_reducible apply Pick.there)) (.cons (show Pick _ (cel true b3 123 [vU16 k.1, .bool k.2.1, vU32 k.2.2]) _ from by repeat (first | with_reducible exact Pick.here | with_reducible apply Pick.there)) (.cons (show Pick _ (mapA encK r1 [(k, .map (some rp))]) _ from by repeat (first | with_reducible exact Pick.here | with_reducible apply Pick.there)) (.cons (show Pick _ (mapA encU rp [(0, .agg (ckb c (.slice ba body.length bc)).toArray)]) _ from by repeat (first | with_reducible exact Pick.here | with_reducible apply Pick.there)) .nil))))) fun _ => ?_
  refine GO.x ?_
  refine GX.yld (i := 13) rfl (by decide) (Yld.assign rfl) ?_
  refine GX.done ?_
  refine G.seq ?_
  refine G.seq ?_
  refine G.region ?_
  refine G.yld (by decide) (Yld.move rfl) ?_
  refine G.yld (by decide) (Yld.not rfl) ?_
  refine G.done ?_
  refine G.condF rfl ?_
  refine G.skip ?_
  refine G.seq ?_
  refine G.fold (A := sl true 19 (.slice none 0 0) 0 []) (.imp .emp fun _ _ => sl_nil) ?_
  refine G.region ?_
  refine G.yld (by decide) (Yld.move rfl) ?_
  refine G.yld (by decide) (Yld.loadAgg (cs := [_, _, _, _, _, _, _, _, _, _, _, _, _, _, _, _, _, _, _]) rfl Try.isAgg36 Try.sizeOf36 (by repeat (first | with_reducible exact Pick.here | with_reducible apply Pick.there)) rfl (aggAt rfl)) ?_
  refine G.opc (by decide) (OpC.buildOne (cs := [_, _, _, _, _, _, _, _, _, _, _, _, _, _, _, _, _, _, _]) Try.runUnderlying130 Try.sizeOf36 Try.zeroValue36 rfl rfl rfl rfl (by decide)) fun bl => ?_
  refine G.fold (A := sl true 19 (.slice (some ⟨bl, 0, none⟩) 1 1) 1 (ckb c (.slice ba body.length bc))) (.imp (.pick (A := cel _ bl _ _) (by repeat (first | with_reducible exact Pick.here | with_reducible apply Pick.there))) (fun r h => sl_row (k := 19) (n := 1) rfl r (by exact h))) ?_
  refine G.opc (by decide) (OpC.appendE (kk := 19) (bytes := 160) Try.underlying130 Try.type36 rfl rfl rfl rfl rfl Try.underlying130 rfl rfl (show Pick _ (sl true 19 (.slice none 0 0) _ _) _ from by repeat (first | with_reducible exact Pick.here | with_reducible apply Pick.there)) (by repeat (first | with_reducible exact Pick.here | with_reducible apply Pick.there)) rfl (room_of _ _ (by decide) (by omega)) rfl (List.nil_append _)) fun vg => ?_
  refine G.slv fun a2 c2 hvg hlg hcg => ?_
  subst hvg
  refine G.yld (by decide) (Yld.assign rfl) ?_
  refine G.done ?_
  refine G.seq ?_
  refine G.region ?_
  refine G.yld (by decide) (Yld.fieldAddr Try_fo36_2 rfl) ?_
  refine G.yld (by decide) (Yld.load rfl Try.isAgg4 (by repeat (first | with_reducible exact Pick.here | with_reducible apply Pick.there)) rfl) ?_
  refine G.as (t := 29) (v := .bool true) rfl (congrArg Value.bool hfin) ?_
  refine G.done ?_
  refine G.condT rfl ?_
  refine G.seq ?_
  refine G.region ?_
  refine G.yld (by decide) (Yld.move rfl) ?_
  refine G.yld (by decide) (Yld.assign rfl) ?_
  refine G.done ?_
  refine G.ret ?_
  refine G.x_ret_block (G.x_ret_then ?_)
  refine G.x_ret_then (G.x_ret_then ?_)
  refine G.unframe (by repeat (first | exact App.nil | apply App.cons)) ?_
  refine G.x_ret_block (G.x_ret_then ?_)
  refine G.ret1 (.inr rfl) Try.results63 (.tmp rfl) ?_
  exact ⟨_, (.ex (a2, c2) (.star (.lift rfl) (.star (.pick (A := sl true 19 (.slice a2 _ _) _ _) (by repeat (first | with_reducible exact Pick.here | with_reducible apply Pick.there))) (.star (.pick (by repeat (first | with_reducible exact Pick.here | with_reducible apply Pick.there))) (.star (.pick (by repeat (first | with_reducible exact Pick.here | with_reducible apply Pick.there))) (.pick (by repeat (first | with_reducible exact Pick.here | with_reducible apply Pick.there))))))))⟩
theorem jOnward_spec (b r1 r2 r3 r4 : Nat) (ra0 : Option Addr) (rc0 : Nat) (nx : List (Int × Value)) (ms : List Msg) (m : Msg) (s : UInt16) (hn : nextOf nx s m.mid) (hsm : ms.length ≤ 1000000) : Sl.Spec Try.prog 70 [ptr b, vU16 s].toArray [jcel b r1 r2 r3 r4 (.slice ra0 ms.length rc0), mapA encK r3 [(((s, false, m.mid) : Key), .agg (msgv m).toArray)], mapA encH r4 nx, sl true 5 (.slice ra0 ms.length rc0) ms.length (msgc ms)] (fun v => ex fun (x : Option Addr × Nat) => star (jcel b r1 r2 r3 r4 (.slice x.1 (ms ++ [m]).length x.2)) (star (mapA encK r3 []) (star (mapA encH r4 (aset nx (s.toNat : Int) (vU32 (m.mid + 1)))) (sl true 5 (.slice x.1 (ms ++ [m]).length x.2) (ms ++ [m]).length (msgc (ms ++ [m])))))) := by
  refine Sl.Spec.of_body (vs := [ptr b, vU16 s]) Try.func70 Try.ntmps70 (Nat.le_of_ble_eq_true rfl) rfl fun w0 F => ?_
  refine G.block ?_
  refine G.loopE (X := Nat × Option Addr × Nat) (fun x => [(0, ptr b), (1, vU16 s)]) (fun x => [lift (x.1 = 0 ∨ x.1 = 1), jcel b r1 r2 r3 r4 (.slice x.2.1 (if x.1 = 0 then ms else ms ++ [m]).length x.2.2), mapA encK r3 (if x.1 = 0 then [(((s, false, m.mid) : Key), (.agg (msgv m).toArray : Value))] else []), mapA encH r4 (if x.1 = 0 then nx else aset nx (s.toNat : Int) (vU32 (m.mid + 1))), sl true 5 (.slice x.2.1 (if x.1 = 0 then ms else ms ++ [m]).length x.2.2) (if x.1 = 0 then ms else ms ++ [m]).length (msgc (if x.1 = 0 then ms else ms ++ [m]))]) (fun x => 1 - x.1) (0, ra0, rc0) (.cons (t := 0) rfl (.cons (t := 1) rfl .nil)) (.cons (.lift (.inl rfl)) (.cons (.imp (.pick (A := cel true b 118 _) (by repeat (first | with_reducible exact Pick.here | with_reducible apply Pick.there))) (fun r h => by exact h)) (.cons (.imp (.pick (A := mapA encK r3 _) (by repeat (first | with_reducible exact Pick.here | with_reducible apply Pick.there))) (fun r h => by exact h)) (.cons (.imp (.pick (A := mapA encH r4 _) (by repeat (first | with_reducible exact Pick.here | with_reducible apply Pick.there))) (fun r h => by exact h)) (.cons (.imp (.pick (A := sl true 5 _ _ _) (by repeat (first | with_reducible exact Pick.here | with_reducible apply Pick.there))) (fun r h => by exact h)) .nil))))) fun ⟨i, ra, rc⟩ => ?_
  refine G.lift fun hi => ?_
  simp only at hi
  rcases hi with rfl | rfl
  · simp only [if_true]
    refine G.block ?_
    refine G.seq ?_
    refine G.region ?_
    refine G.yld (by decide) (Yld.move rfl) ?_
    refine G.yld (by decide) (Yld.move rfl) ?_
    refine G.yld (by decide) (Yld.nilCheck rfl) ?_
    refine G.yld (by decide) (Yld.fieldAddr Try_fo118_4 rfl) ?_
    refine G.yld (by decide) (Yld.load rfl Try.isAgg115 (by repeat (first | with_reducible exact Pick.here | with_reducible apply Pick.there)) rfl) ?_
    refine G.yld (by decide) (Yld.move rfl) ?_
    refine G.yld (by decide) (Yld.lookup (k := (s.toNat : Int)) (z := .int .u32 0) key30 Try.runUnderlying115 Try.zeroValue22 rfl rfl (show Pick _ (mapA encH r4 _) _ from by repeat (first | with_reducible exact Pick.here | with_reducible apply Pick.there))) ?_
    rw [show (alook nx (s.toNat : Int)).getD (.int .u32 0) = vU32 m.mid from hn]
    refine G.yld (by decide) (Yld.buildS (cs := [_, _, _]) Try_z123 Try_pl123 rfl rfl (.cons rfl rfl (Nat.le_of_ble_eq_true rfl) (.cons rfl rfl (Nat.le_of_ble_eq_true rfl) (.cons rfl rfl (Nat.le_of_ble_eq_true rfl) .nil))) rfl) ?_
    refine G.opc (by decide) (OpC.alloc (cs := [.int .u16 0, .bool false, .int .u32 0]) Try.zeroValue123 rfl) fun b4 => ?_
    refine G.op0  (OpC.storeAgg (k := 3) Try.sizeOf123 rfl rfl rfl rfl (by repeat (first | with_reducible exact Pick.here | with_reducible apply Pick.there)) (setWhole rfl) (Nat.le_of_ble_eq_true rfl)) fun _ => ?_
    refine G.done ?_
    refine G.seq ?_
    refine G.draw Try_mixed (.still 0 (.still 1 (.still 2 (.still 3 (.still 4 (.still 5 (.still 6 (.still 7 (.still 8 (.loud 9 true (.loud 10 true (.loud 11 false (.done))))))))))))) (by kernel_rfl) (.cons (show Pick _ (cel true b 118 _) _ from by repeat (first | with_reducible exact Pick.here | with_reducible apply Pick.there)) (.cons (show Pick _ (cel true b4 123 [vU16 s, .bool false, vU32 m.mid]) _ from by repeat (first | with_reducible exact Pick.here | with_reducible apply Pick.there)) (.cons (show Pick _ (mapA encK r3 [(((s, false, m.mid) : Key), .agg (msgv m).toArray)]) _ from by repeat (first | with_reducible exact Pick.here | with_reducible apply Pick.there)) .nil))) ?_
    refine GO.yld (i := 0) rfl (by decide) (Yld.move rfl) ?_
    refine GO.yld (i := 1) rfl (by decide) (Yld.nilCheck rfl) ?_
    refine GO.yld (i := 2) rfl (by decide) (Yld.fieldAddr Try_fo118_3 rfl) ?_
    refine GO.yld (i := 3) rfl (by decide) (Yld.load rfl Try.isAgg114 (by repeat (first | with_reducible exact Pick.here | with_reducible apply Pick.there)) rfl) ?_
    refine GO.yld (i := 4) rfl (by decide) (Yld.loadAgg (cs := [_, _, _]) rfl Try.isAgg123 Try.sizeOf123 (by repeat (first | with_reducible exact Pick.here | with_reducible apply Pick.there)) rfl (aggAt rfl)) ?_
    refine GO.yld (i := 5) rfl (by decide) (Yld.lookupS (k := ((s, false, m.mid) : Key)) (v := .agg (msgv m).toArray) key123 Try.runUnderlying114 Try.zeroValue68 rfl rfl (show Pick _ (mapA encK r3 _) _ from by repeat (first | with_reducible exact Pick.here | with_reducible apply Pick.there)) (by simp [alook])) ?_
    refine GO.yld (i := 6) rfl (by decide) (Yld.move rfl) ?_
    refine GO.yld (i := 7) rfl (by decide) (Yld.extract rfl rfl) ?_
    refine GO.yld (i := 8) rfl (by decide) (Yld.extract rfl rfl) ?_
    refine GO.opc (i := 9) rfl (by decide) (OpC.alloc (cs := [.int .u16 0, .bool false, .int .u32 0, .int .u32 0, .slice none 0 0]) Try.zeroValue68 rfl) (fun _ => (.cons (show Pick _ (cel true b 118 _) _ from by repeat (first | with_reducible exact Pick.here | with_reducible apply Pick.there)) (.cons (show Pick _ (cel true b4 123 [vU16 s, .bool false, vU32 m.mid]) _ from by repeat (first | with_reducible exact Pick.here | with_reducible apply Pick.there)) (.cons (show Pick _ (mapA encK r3 [(((s, false, m.mid) : Key), .agg (msgv m).toArray)]) _ from by repeat (first | with_reducible exact Pick.here | with_reducible apply Pick.there)) .nil)))) fun b5 => ?_
    refine GO.op0 (i := 10) rfl  (OpC.storeAgg (k := 5) Try.sizeOf68 rfl rfl rfl rfl (by repeat (first | with_reducible exact Pick.here | with_reducible apply Pick.there)) (setWhole rfl) (Nat.le_of_ble_eq_true rfl)) (fun _ => (.cons (show Pick _ (cel true b 118 _) _ from by repeat (first | with_reducible exact Pick.here | with_reducible apply Pick.there)) (.cons (show Pick _ (cel true b4 123 [vU16 s, .bool false, vU32 m.mid]) _ from by repeat (first | with_reducible exact Pick.here | with_reducible apply Pick.there)) (.cons (show Pick _ (mapA encK r3 [(((s, false, m.mid) : Key), .agg (msgv m).toArray)]) _ from by repeat (first | with_reducible exact Pick.here | with_reducible apply Pick.there)) .nil)))) fun _ => ?_
    refine GO.x ?_
    refine GX.yld (i := 11) rfl (by decide) (Yld.assign rfl) ?_
    refine GX.done ?_
    refine G.seq ?_
    refine G.seq ?_
    refine G.region ?_
    refine G.yld (by decide) (Yld.move rfl) ?_
    refine G.yld (by decide) (Yld.not rfl) ?_
    refine G.done ?_
    refine G.condF rfl ?_
    refine G.skip ?_
    refine G.seq ?_
    refine G.draw Try_mixed (.still 0 (.still 1 (.still 2 (.still 3 (.still 4 (.loud 5 false (.done))))))) (by kernel_rfl) (Picks.refl _) ?_
    refine GO.yld (i := 0) rfl (by decide) (Yld.move rfl) ?_
    refine GO.yld (i := 1) rfl (by decide) (Yld.nilCheck rfl) ?_
    refine GO.yld (i := 2) rfl (by decide) (Yld.fieldAddr Try_fo118_3 rfl) ?_
    refine GO.yld (i := 3) rfl (by decide) (Yld.load rfl Try.isAgg114 (by repeat (first | with_reducible exact Pick.here | with_reducible apply Pick.there)) rfl) ?_
    refine GO.yld (i := 4) rfl (by decide) (Yld.loadAgg (cs := [_, _, _]) rfl Try.isAgg123 Try.sizeOf123 (by repeat (first | with_reducible exact Pick.here | with_reducible apply Pick.there)) rfl (aggAt rfl)) ?_
    refine GO.x ?_
    refine GX.op0 (i := 5) rfl  (OpC.mapDelete (k := ((s, false, m.mid) : Key)) key123 Try.runUnderlying114 rfl rfl (show Pick _ (mapA encK r3 _) _ from by repeat (first | with_reducible exact Pick.here | with_reducible apply Pick.there))) fun _ => ?_
    rw [show adel [(((s, false, m.mid) : Key), (.agg (msgv m).toArray : Value))] ((s, false, m.mid) : Key) = [] by simp [adel]]
    refine GX.done ?_
    refine G.seq ?_
    refine G.draw Try_mixed (.still 0 (.still 1 (.still 2 (.still 3 (.still 4 (.still 5 (.loud 6 true (.loud 7 true (.loud 8 false (.loud 9 false (.loud 10 false (.done)))))))))))) (by kernel_rfl) (.cons (show Pick _ (cel true b 118 _) _ from by repeat (first | with_reducible exact Pick.here | with_reducible apply Pick.there)) (.cons (show Pick _ (cel true b5 68 _) _ from by repeat (first | with_reducible exact Pick.here | with_reducible apply Pick.there)) .nil)) ?_
    refine GO.yld (i := 0) rfl (by decide) (Yld.move rfl) ?_
    refine GO.yld (i := 1) rfl (by decide) (Yld.move rfl) ?_
    refine GO.yld (i := 2) rfl (by decide) (Yld.nilCheck rfl) ?_
    refine GO.yld (i := 3) rfl (by decide) (Yld.fieldAddr Try_fo118_5 rfl) ?_
    refine GO.yld (i := 4) rfl (by decide) (Yld.load rfl Try.isAgg116 (by repeat (first | with_reducible exact Pick.here | with_reducible apply Pick.there)) rfl) ?_
    refine GO.yld (i := 5) rfl (by decide) (Yld.loadAgg (cs := [_, _, _, _, _]) rfl Try.isAgg68 Try.sizeOf68 (by repeat (first | with_reducible exact Pick.here | with_reducible apply Pick.there)) rfl (aggAt rfl)) ?_
    refine GO.opc (i := 6) rfl (by decide) (OpC.buildOne (cs := [_, _, _, _, _]) Try.runUnderlying116 Try.sizeOf68 Try.zeroValue68 rfl rfl rfl rfl (by decide)) (fun _ => (.cons (show Pick _ (cel true b 118 _) _ from by repeat (first | with_reducible exact Pick.here | with_reducible apply Pick.there)) (.cons (show Pick _ (cel true b5 68 _) _ from by repeat (first | with_reducible exact Pick.here | with_reducible apply Pick.there)) .nil))) fun bl => ?_
    refine GO.fold (A := sl true 5 (.slice (some ⟨bl, 0, none⟩) 1 1) 1 (msgv m)) (.imp (.pick (A := cel _ bl _ _) (by repeat (first | with_reducible exact Pick.here | with_reducible apply Pick.there))) (fun r h => sl_row (k := 5) (n := 1) rfl r (by exact h))) ?_
    refine GO.opc (i := 7) rfl (by decide) (OpC.appendE (kk := 5) (bytes := 40) Try.underlying116 Try.type68 rfl rfl rfl rfl rfl Try.underlying116 rfl rfl (show Pick _ (sl true 5 (.slice ra _ _) _ _) _ from by repeat (first | with_reducible exact Pick.here | with_reducible apply Pick.there)) (by repeat (first | with_reducible exact Pick.here | with_reducible apply Pick.there)) rfl (room_of _ _ (by decide) (by omega)) rfl (msgc_snoc _ _)) (fun _ => (.cons (show Pick _ (cel true b 118 _) _ from by repeat (first | with_reducible exact Pick.here | with_reducible apply Pick.there)) (.cons (show Pick _ (cel true b5 68 _) _ from by repeat (first | with_reducible exact Pick.here | with_reducible apply Pick.there)) .nil))) fun vg => ?_
    refine GO.fact (A := sl true 5 vg _ _) (by repeat (first | with_reducible exact Pick.here | with_reducible apply Pick.there)) sl_cell fun hvg => ?_
    refine GO.x ?_
    refine GX.yld (i := 8) rfl (by decide) (Yld.nilCheck rfl) ?_
    refine GX.yld (i := 9) rfl (by decide) (Yld.fieldAddr Try_fo118_5 rfl) ?_
    refine GX.op0 (i := 10) rfl  (OpC.storeS (.succ (.succ (.succ (.succ (.succ .zero))))) Try.sizeOf116 rfl rfl hvg (by repeat (first | with_reducible exact Pick.here | with_reducible apply Pick.there))) fun _ => ?_
    refine GX.done ?_
    refine G.pick (A := sl true 5 vg _ _) (by repeat (first | with_reducible exact Pick.here | with_reducible apply Pick.there)) (G.slv fun ra2 rc2 hvg2 hlg hcg => ?_)
    subst hvg2
    refine G.draw Try_mixed (.still 0 (.still 1 (.still 2 (.still 3 (.still 4 (.still 5 (.still 6 (.still 7 (.still 8 (.loud 9 true (.loud 10 false (.done)))))))))))) (by kernel_rfl) (.cons (show Pick _ (cel true b 118 [.bool true, .map (some r1), .map (some r2), .map (some r3), .map (some r4), .slice ra2 _ rc2]) _ from by repeat (first | with_reducible exact Pick.here | with_reducible apply Pick.there)) (.cons (show Pick _ (cel true b4 123 [vU16 s, .bool false, vU32 m.mid]) _ from by repeat (first | with_reducible exact Pick.here | with_reducible apply Pick.there)) .nil)) ?_
    refine GO.yld (i := 0) rfl (by decide) (Yld.move rfl) ?_
    refine GO.yld (i := 1) rfl (by decide) (Yld.nilCheck rfl) ?_
    refine GO.yld (i := 2) rfl (by decide) (Yld.fieldAddr Try_fo118_4 rfl) ?_
    refine GO.yld (i := 3) rfl (by decide) (Yld.load rfl Try.isAgg115 (by repeat (first | with_reducible exact Pick.here | with_reducible apply Pick.there)) rfl) ?_
    refine GO.yld (i := 4) rfl (by decide) (Yld.move rfl) ?_
    refine GO.yld (i := 5) rfl (by decide) (Yld.move rfl) ?_
    refine GO.yld (i := 6) rfl (by decide) (Yld.fieldAddr Try_fo123_2 rfl) ?_
    refine GO.yld (i := 7) rfl (by decide) (Yld.load rfl Try.isAgg22 (by repeat (first | with_reducible exact Pick.here | with_reducible apply Pick.there)) rfl) ?_
    refine GO.yld (i := 8) rfl (by decide) (Yld.add_u32 (b := (1 : UInt32)) rfl rfl) ?_
    refine GO.opcE (i := 9) rfl (by decide) (OpC.call Try.call58 rfl (jMid_spec b _ _ _ _ _ (m.mid + 1)) (.cons (by repeat (first | with_reducible exact Pick.here | with_reducible apply Pick.there)) .nil)) (fun _ => (.cons (.unlift Mono.cel) (.cons (.pick (show Pick _ (cel true b4 _ _) _ from by repeat (first | with_reducible exact Pick.here | with_reducible apply Pick.there))) .nil))) fun _ => ?_
    refine GO.star ?_
    refine GO.lift ?_
    rintro rfl
    refine GO.x ?_
    refine GX.op0 (i := 10) rfl  (OpC.mapUpdate (k := (s.toNat : Int)) key30 Try.runUnderlying115 rfl rfl rfl (show Pick _ (mapA encH r4 _) _ from by repeat (first | with_reducible exact Pick.here | with_reducible apply Pick.there))) fun _ => ?_
    refine GX.done ?_
    refine G.nil ?_
    refine G.x_block (G.x_then ?_)
    refine G.nil ?_
    refine G.x_then ?_
    exact G.againE (1, ra2, rc2) (by simp) (.cons (t := 0) rfl (.cons (t := 1) rfl .nil)) (.cons (.lift (.inr rfl)) (.cons (.imp (.pick (A := cel true b 118 _) (by repeat (first | with_reducible exact Pick.here | with_reducible apply Pick.there))) (fun r h => by simp only [Nat.one_ne_zero, if_false]; simpa using h)) (.cons (.imp (.pick (A := mapA encK r3 _) (by repeat (first | with_reducible exact Pick.here | with_reducible apply Pick.there))) (fun r h => by simp only [Nat.one_ne_zero, if_false]; simpa using h)) (.cons (.imp (.pick (A := mapA encH r4 _) (by repeat (first | with_reducible exact Pick.here | with_reducible apply Pick.there))) (fun r h => by simp only [Nat.one_ne_zero, if_false]; simpa using h)) (.cons (.imp (.pick (A := sl true 5 (.slice ra2 _ _) _ _) (by repeat (first | with_reducible exact Pick.here | with_reducible apply Pick.there))) (fun r h => by simp only [Nat.one_ne_zero, if_false]; simpa using h)) .nil)))))
  · simp only [if_true, Nat.one_ne_zero, if_false]
    refine G.block ?_
    refine G.seq ?_
    refine G.region ?_
    refine G.yld (by decide) (Yld.move rfl) ?_
    refine G.yld (by decide) (Yld.move rfl) ?_
    refine G.yld (by decide) (Yld.nilCheck rfl) ?_
    refine G.yld (by decide) (Yld.fieldAddr Try_fo118_4 rfl) ?_
    refine G.yld (by decide) (Yld.load rfl Try.isAgg115 (by repeat (first | with_reducible exact Pick.here | with_reducible apply Pick.there)) rfl) ?_
    refine G.yld (by decide) (Yld.move rfl) ?_
    refine G.yld (by decide) (Yld.lookup (k := (s.toNat : Int)) (z := .int .u32 0) key30 Try.runUnderlying115 Try.zeroValue22 rfl rfl (show Pick _ (mapA encH r4 _) _ from by repeat (first | with_reducible exact Pick.here | with_reducible apply Pick.there))) ?_
    rw [show (alook (aset nx (s.toNat : Int) (vU32 (m.mid + 1))) (s.toNat : Int)).getD (.int .u32 0) = vU32 (m.mid + 1) from nextOf_aset _ _ _]
    refine G.yld (by decide) (Yld.buildS (cs := [_, _, _]) Try_z123 Try_pl123 rfl rfl (.cons rfl rfl (Nat.le_of_ble_eq_true rfl) (.cons rfl rfl (Nat.le_of_ble_eq_true rfl) (.cons rfl rfl (Nat.le_of_ble_eq_true rfl) .nil))) rfl) ?_
    refine G.opc (by decide) (OpC.alloc (cs := [.int .u16 0, .bool false, .int .u32 0]) Try.zeroValue123 rfl) fun b4 => ?_
    refine G.op0  (OpC.storeAgg (k := 3) Try.sizeOf123 rfl rfl rfl rfl (by repeat (first | with_reducible exact Pick.here | with_reducible apply Pick.there)) (setWhole rfl) (Nat.le_of_ble_eq_true rfl)) fun _ => ?_
    refine G.done ?_
    refine G.seq ?_
    refine G.draw Try_mixed (.still 0 (.still 1 (.still 2 (.still 3 (.still 4 (.still 5 (.still 6 (.still 7 (.still 8 (.loud 9 true (.loud 10 true (.loud 11 false (.done))))))))))))) (by kernel_rfl) (.cons (show Pick _ (cel true b 118 _) _ from by repeat (first | with_reducible exact Pick.here | with_reducible apply Pick.there)) (.cons (show Pick _ (cel true b4 123 [vU16 s, .bool false, vU32 (m.mid + 1)]) _ from by repeat (first | with_reducible exact Pick.here | with_reducible apply Pick.there)) (.cons (show Pick _ (mapA encK r3 []) _ from by repeat (first | with_reducible exact Pick.here | with_reducible apply Pick.there)) .nil))) ?_
    refine GO.yld (i := 0) rfl (by decide) (Yld.move rfl) ?_
    refine GO.yld (i := 1) rfl (by decide) (Yld.nilCheck rfl) ?_
    refine GO.yld (i := 2) rfl (by decide) (Yld.fieldAddr Try_fo118_3 rfl) ?_
    refine GO.yld (i := 3) rfl (by decide) (Yld.load rfl Try.isAgg114 (by repeat (first | with_reducible exact Pick.here | with_reducible apply Pick.there)) rfl) ?_
    refine GO.yld (i := 4) rfl (by decide) (Yld.loadAgg (cs := [_, _, _]) rfl Try.isAgg123 Try.sizeOf123 (by repeat (first | with_reducible exact Pick.here | with_reducible apply Pick.there)) rfl (aggAt rfl)) ?_
    refine GO.yld (i := 5) rfl (by decide) (Yld.lookupN (k := ((s, false, m.mid + 1) : Key)) key123 Try.runUnderlying114 Try.zeroValue68 rfl rfl (show Pick _ (mapA encK r3 _) _ from by repeat (first | with_reducible exact Pick.here | with_reducible apply Pick.there)) rfl) ?_
    refine GO.yld (i := 6) rfl (by decide) (Yld.move rfl) ?_
    refine GO.yld (i := 7) rfl (by decide) (Yld.extract rfl rfl) ?_
    refine GO.yld (i := 8) rfl (by decide) (Yld.extract rfl rfl) ?_
    refine GO.opc (i := 9) rfl (by decide) (OpC.alloc (cs := [.int .u16 0, .bool false, .int .u32 0, .int .u32 0, .slice none 0 0]) Try.zeroValue68 rfl) (fun _ => (.cons (show Pick _ (cel true b 118 _) _ from by repeat (first | with_reducible exact Pick.here | with_reducible apply Pick.there)) (.cons (show Pick _ (cel true b4 123 [vU16 s, .bool false, vU32 (m.mid + 1)]) _ from by repeat (first | with_reducible exact Pick.here | with_reducible apply Pick.there)) (.cons (show Pick _ (mapA encK r3 []) _ from by repeat (first | with_reducible exact Pick.here | with_reducible apply Pick.there)) .nil)))) fun b5 => ?_
    refine GO.op0 (i := 10) rfl  (OpC.storeAgg (k := 5) Try.sizeOf68 rfl rfl rfl rfl (by repeat (first | with_reducible exact Pick.here | with_reducible apply Pick.there)) (setWhole rfl) (Nat.le_of_ble_eq_true rfl)) (fun _ => (.cons (show Pick _ (cel true b 118 _) _ from by repeat (first | with_reducible exact Pick.here | with_reducible apply Pick.there)) (.cons (show Pick _ (cel true b4 123 [vU16 s, .bool false, vU32 (m.mid + 1)]) _ from by repeat (first | with_reducible exact Pick.here | with_reducible apply Pick.there)) (.cons (show Pick _ (mapA encK r3 []) _ from by repeat (first | with_reducible exact Pick.here | with_reducible apply Pick.there)) .nil)))) fun _ => ?_
    refine GO.x ?_
    refine GX.yld (i := 11) rfl (by decide) (Yld.assign rfl) ?_
    refine GX.done ?_
    refine G.seq ?_
    refine G.seq ?_
    refine G.region ?_
    refine G.yld (by decide) (Yld.move rfl) ?_
    refine G.yld (by decide) (Yld.not rfl) ?_
    refine G.done ?_
    refine G.condT rfl ?_
    refine G.ret ?_
    refine G.x_ret_block (G.x_ret_then ?_)
    refine G.x_ret_then (G.x_ret_then ?_)
    refine G.unframe (by repeat (first | exact App.nil | apply App.cons)) ?_
    refine G.x_ret_block (G.x_ret_then ?_)
    refine G.ret0 (.inr rfl) Try.results70 ?_
    exact ⟨_, (.ex (ra, rc) (.star (.pick (A := cel true b 118 _) (by repeat (first | with_reducible exact Pick.here | with_reducible apply Pick.there))) (.star (.pick (by repeat (first | with_reducible exact Pick.here | with_reducible apply Pick.there))) (.star (.pick (by repeat (first | with_reducible exact Pick.here | with_reducible apply Pick.there))) (.pick (A := sl true 5 _ _ _) (by repeat (first | with_reducible exact Pick.here | with_reducible apply Pick.there)))))))⟩
end Go.Fl
