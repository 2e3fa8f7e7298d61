/- Contracts, printed by a program of mine and proved by Lean. -/
import Derived.Test.YtogemllbdkbjkaaFlJoinF
import Derived.Test.YtogemllbdkbjkaaFlA1
import Derived.Test.YtogemllbdkbjkaaFlA4
set_option linter.unusedVariables false
set_option linter.unusedSimpArgs false
namespace Go.Fl
open Go Go.Sl Go.Proofs
set_option maxRecDepth 10000
set_option linter.unusedVariables false
theorem jMid_spec (b : Nat) (v1 v2 v3 v4 v5 : Value) (n : UInt32) : Sl.Spec Try.prog 58 [ptr b, vU32 n].toArray [cel true b 118 [.bool true, v1, v2, v3, v4, v5]] (fun v => star (lift (v = vU32 n)) (cel true b 118 [.bool true, v1, v2, v3, v4, v5])) := by
  refine Sl.Spec.of_body (vs := [ptr b, vU32 n]) Try.func58 Try.ntmps58 (Nat.le_of_ble_eq_true rfl) rfl fun w0 F => ?_
  refine G.seq ?_
  refine G.region ?_
  refine G.yld (by decide) (Yld.assign rfl) ?_
  refine G.done ?_
  refine G.seq ?_
  refine G.seq ?_
  refine G.region ?_
  refine G.yld (by decide) (Yld.move rfl) ?_
  refine G.yld (by decide) (Yld.nilCheck rfl) ?_
  refine G.yld (by decide) (Yld.fieldAddr Try_fo118_0 rfl) ?_
  refine G.yld (by decide) (Yld.load rfl Try.isAgg4 (by repeat (first | with_reducible exact Pick.here | with_reducible apply Pick.there)) rfl) ?_
  refine G.done ?_
  refine G.condT rfl ?_
  refine G.seq ?_
  refine G.region ?_
  refine G.yld (by decide) (Yld.move rfl) ?_
  refine G.yld (by decide) (Yld.assign rfl) ?_
  refine G.done ?_
  refine G.ret ?_
  refine G.ret1 (.inr rfl) Try.results58 (.tmp rfl) ?_
  exact ⟨_, (.star (.lift rfl) (.pick (by repeat (first | with_reducible exact Pick.here | with_reducible apply Pick.there))))⟩
theorem jBehind_spec (b : Nat) (v1 v2 v3 v4 v5 : Value) (m n : UInt32) : Sl.Spec Try.prog 66 [ptr b, vU32 m, vU32 n].toArray [cel true b 118 [.bool true, v1, v2, v3, v4, v5]] (fun v => star (lift (v = .bool (less m n))) (cel true b 118 [.bool true, v1, v2, v3, v4, v5])) := by
  refine Sl.Spec.of_body (vs := [ptr b, vU32 m, vU32 n]) Try.func66 Try.ntmps66 (Nat.le_of_ble_eq_true rfl) rfl fun w0 F => ?_
  refine G.seq ?_
  refine G.region ?_
  refine G.yld (by decide) (Yld.assign rfl) ?_
  refine G.done ?_
  refine G.seq ?_
  refine G.seq ?_
  refine G.region ?_
  refine G.yld (by decide) (Yld.move rfl) ?_
  refine G.yld (by decide) (Yld.nilCheck rfl) ?_
  refine G.yld (by decide) (Yld.fieldAddr Try_fo118_0 rfl) ?_
  refine G.yld (by decide) (Yld.load rfl Try.isAgg4 (by repeat (first | with_reducible exact Pick.here | with_reducible apply Pick.there)) rfl) ?_
  refine G.done ?_
  refine G.condT rfl ?_
  refine G.seq ?_
  refine G.region ?_
  refine G.yld (by decide) (Yld.move rfl) ?_
  refine G.yld (by decide) (Yld.move rfl) ?_
  refine G.opc (by decide) (OpC.call Try.call28 rfl (less_spec _ _) .nil) fun v => ?_
  refine G.lift ?_
  rintro rfl
  refine G.yld (by decide) (Yld.assign rfl) ?_
  refine G.done ?_
  refine G.ret ?_
  refine G.ret1 (.inr rfl) Try.results66 (.tmp rfl) ?_
  exact ⟨_, (.star (.lift rfl) (.pick (by repeat (first | with_reducible exact Pick.here | with_reducible apply Pick.there))))⟩
theorem jStale_spec (b r3 r4 : Nat) (v1 v2 v5 : Value) (nx : List (Int × Value)) (k : Key) (n : UInt32) (hn : (alook nx (k.1.toNat : Int)).getD (.int .u32 0) = vU32 n) (hq : k.2.1 = true ∨ (k.2.1 = false ∧ less k.2.2 n = false)) : Sl.Spec Try.prog 59 [ptr b, encK k].toArray [cel true b 118 [.bool true, v1, v2, .map (some r3), .map (some r4), v5], mapA encK r3 [], mapA encH r4 nx] (fun v => star (lift (v = .bool false)) (star (cel true b 118 [.bool true, v1, v2, .map (some r3), .map (some r4), v5]) (star (mapA encK r3 []) (mapA encH r4 nx)))) := by
  refine Sl.Spec.of_body (vs := [ptr b, encK k]) Try.func59 Try.ntmps59 (Nat.le_of_ble_eq_true rfl) rfl fun w0 F => ?_
  refine G.seq ?_
  refine G.region ?_
  refine G.opc (by decide) (OpC.box (cs := [_, _, _]) rfl rfl) fun b3 => ?_
  refine G.yld (by decide) (Yld.assign rfl) ?_
  refine G.done ?_
  refine G.seq ?_
  refine G.draw Try_mixed (.still 0 (.still 1 (.still 2 (.still 3 (.still 4 (.still 5 (.still 6 (.still 7 (.still 8 (.loud 9 true (.loud 10 true (.loud 11 false (.done))))))))))))) (by kernel_rfl) (.cons (show Pick _ (cel true b 118 [.bool true, v1, v2, .map (some r3), .map (some r4), v5]) _ from by repeat (first | with_reducible exact Pick.here | with_reducible apply Pick.there)) (.cons (show Pick _ (cel true b3 123 [vU16 k.1, .bool k.2.1, vU32 k.2.2]) _ from by repeat (first | with_reducible exact Pick.here | with_reducible apply Pick.there)) (.cons (show Pick _ (mapA encK r3 []) _ from by repeat (first | with_reducible exact Pick.here | with_reducible apply Pick.there)) .nil))) ?_
  refine GO.yld (i := 0) rfl (by decide) (Yld.move rfl) ?_
  refine GO.yld (i := 1) rfl (by decide) (Yld.nilCheck rfl) ?_
  refine GO.yld (i := 2) rfl (by decide) (Yld.fieldAddr Try_fo118_3 rfl) ?_
  refine GO.yld (i := 3) rfl (by decide) (Yld.load rfl Try.isAgg114 (by repeat (first | with_reducible exact Pick.here | with_reducible apply Pick.there)) rfl) ?_
  refine GO.yld (i := 4) rfl (by decide) (Yld.loadAgg (cs := [_, _, _]) rfl Try.isAgg123 Try.sizeOf123 (by repeat (first | with_reducible exact Pick.here | with_reducible apply Pick.there)) rfl (aggAt rfl)) ?_
  refine GO.yld (i := 5) rfl (by decide) (Yld.lookupN key123 Try.runUnderlying114 Try.zeroValue68 rfl rfl (show Pick _ (mapA encK r3 []) _ from by repeat (first | with_reducible exact Pick.here | with_reducible apply Pick.there)) rfl) ?_
  refine GO.yld (i := 6) rfl (by decide) (Yld.move rfl) ?_
  refine GO.yld (i := 7) rfl (by decide) (Yld.extract rfl rfl) ?_
  refine GO.yld (i := 8) rfl (by decide) (Yld.extract rfl rfl) ?_
  refine GO.opc (i := 9) rfl (by decide) (OpC.alloc (cs := [.int .u16 0, .bool false, .int .u32 0, .int .u32 0, .slice none 0 0]) Try.zeroValue68 rfl) (fun _ => (.cons (show Pick _ (cel true b 118 [.bool true, v1, v2, .map (some r3), .map (some r4), v5]) _ from by repeat (first | with_reducible exact Pick.here | with_reducible apply Pick.there)) (.cons (show Pick _ (cel true b3 123 [vU16 k.1, .bool k.2.1, vU32 k.2.2]) _ from by repeat (first | with_reducible exact Pick.here | with_reducible apply Pick.there)) (.cons (show Pick _ (mapA encK r3 []) _ from by repeat (first | with_reducible exact Pick.here | with_reducible apply Pick.there)) .nil)))) fun b5 => ?_
  refine GO.op0 (i := 10) rfl  (OpC.storeAgg (k := 5) Try.sizeOf68 rfl rfl rfl rfl (by repeat (first | with_reducible exact Pick.here | with_reducible apply Pick.there)) (setWhole rfl) (Nat.le_of_ble_eq_true rfl)) (fun _ => (.cons (show Pick _ (cel true b 118 [.bool true, v1, v2, .map (some r3), .map (some r4), v5]) _ from by repeat (first | with_reducible exact Pick.here | with_reducible apply Pick.there)) (.cons (show Pick _ (cel true b3 123 [vU16 k.1, .bool k.2.1, vU32 k.2.2]) _ from by repeat (first | with_reducible exact Pick.here | with_reducible apply Pick.there)) (.cons (show Pick _ (mapA encK r3 []) _ from by repeat (first | with_reducible exact Pick.here | with_reducible apply Pick.there)) .nil)))) fun _ => ?_
  refine GO.x ?_
  refine GX.yld (i := 11) rfl (by decide) (Yld.assign rfl) ?_
  refine GX.done ?_
  refine G.seq ?_
  rcases hq with hq | ⟨hq0, hq⟩
  · refine G.draw Try_mixed (.still 0 (.still 1 (.still 2 (.still 3 (.still 4 (.still 5 (.still 6 (.still 7 (.still 8 (.still 9 (.still 10 (.still 11 (.still 12 (.still 13 (.still 14 (.still 15 (.loud 16 false (.loud 17 false (.loud 18 false (.loud 19 false (.done))))))))))))))))))))) (by kernel_rfl) (Picks.refl _) ?_
    refine GO.yld (i := 0) rfl (by decide) (Yld.fieldAddr Try_fo123_1 rfl) ?_
    refine GO.yld (i := 1) rfl (by decide) (Yld.load rfl Try.isAgg4 (by repeat (first | with_reducible exact Pick.here | with_reducible apply Pick.there)) rfl) ?_
    refine GO.yld (i := 2) rfl (by decide) (Yld.not rfl) ?_
    refine GO.as (t := 18) (v := .bool false) rfl (congrArg Value.bool (by rw [hq]; rfl)) ?_
    refine GO.yld (i := 3) rfl (by decide) (Yld.move rfl) ?_
    refine GO.skipG (i := 4) rfl (by decide) rfl rfl rfl ?_
    refine GO.skipG (i := 5) rfl (by decide) rfl rfl rfl ?_
    refine GO.skipU (i := 6) rfl (by decide) rfl rfl ?_
    refine GO.skipU (i := 7) rfl (by decide) rfl rfl ?_
    refine GO.skipU (i := 8) rfl (by decide) rfl rfl ?_
    refine GO.skipU (i := 9) rfl (by decide) rfl rfl ?_
    refine GO.skipU (i := 10) rfl (by decide) rfl rfl ?_
    refine GO.skipU (i := 11) rfl (by decide) rfl rfl ?_
    refine GO.skipU (i := 12) rfl (by decide) rfl rfl ?_
    refine GO.skipU (i := 13) rfl (by decide) rfl rfl ?_
    refine GO.skipU (i := 14) rfl (by decide) rfl rfl ?_
    refine GO.skipU (i := 15) rfl (by decide) rfl rfl ?_
    refine GO.x ?_
    refine GX.skipU (i := 16) rfl (by decide) rfl rfl ?_
    refine GX.skipG (i := 17) rfl (by decide) rfl rfl rfl ?_
    refine GX.yld (i := 18) rfl (by decide) (Yld.pickF rfl rfl) ?_
    refine GX.yld (i := 19) rfl (by decide) (Yld.assign rfl) ?_
    refine GX.done ?_
    refine G.ret ?_
    refine G.ret1 (.inr rfl) Try.results59 (.tmp rfl) ?_
    exact ⟨_, (.star (.lift rfl) (.star (.pick (by repeat (first | with_reducible exact Pick.here | with_reducible apply Pick.there))) (.star (.pick (by repeat (first | with_reducible exact Pick.here | with_reducible apply Pick.there))) (.pick (by repeat (first | with_reducible exact Pick.here | with_reducible apply Pick.there))))))⟩
  · refine G.draw Try_mixed (.still 0 (.still 1 (.still 2 (.still 3 (.still 4 (.still 5 (.still 6 (.still 7 (.still 8 (.still 9 (.still 10 (.still 11 (.still 12 (.still 13 (.still 14 (.still 15 (.loud 16 false (.loud 17 false (.loud 18 false (.loud 19 false (.done))))))))))))))))))))) (by kernel_rfl) (Picks.refl _) ?_
    refine GO.yld (i := 0) rfl (by decide) (Yld.fieldAddr Try_fo123_1 rfl) ?_
    refine GO.yld (i := 1) rfl (by decide) (Yld.load rfl Try.isAgg4 (by repeat (first | with_reducible exact Pick.here | with_reducible apply Pick.there)) rfl) ?_
    refine GO.yld (i := 2) rfl (by decide) (Yld.not rfl) ?_
    refine GO.as (t := 18) (v := .bool true) rfl (congrArg Value.bool (by rw [hq0]; rfl)) ?_
    refine GO.yld (i := 3) rfl (by decide) (Yld.move rfl) ?_
    refine GO.yldG (i := 4) rfl (by decide) rfl rfl (Yld.move rfl) ?_
    refine GO.yldG (i := 5) rfl (by decide) rfl rfl (Yld.move rfl) ?_
    refine GO.yldG (i := 6) rfl (by decide) rfl rfl (Yld.move rfl) ?_
    refine GO.yldG (i := 7) rfl (by decide) rfl rfl (Yld.fieldAddr Try_fo123_2 rfl) ?_
    refine GO.yldG (i := 8) rfl (by decide) rfl rfl (Yld.load rfl Try.isAgg22 (by repeat (first | with_reducible exact Pick.here | with_reducible apply Pick.there)) rfl) ?_
    refine GO.yldG (i := 9) rfl (by decide) rfl rfl (Yld.move rfl) ?_
    refine GO.yldG (i := 10) rfl (by decide) rfl rfl (Yld.nilCheck rfl) ?_
    refine GO.yldG (i := 11) rfl (by decide) rfl rfl (Yld.fieldAddr Try_fo118_4 rfl) ?_
    refine GO.yldG (i := 12) rfl (by decide) rfl rfl (Yld.load rfl Try.isAgg115 (by repeat (first | with_reducible exact Pick.here | with_reducible apply Pick.there)) rfl) ?_
    refine GO.yldG (i := 13) rfl (by decide) rfl rfl (Yld.fieldAddr Try_fo123_0 rfl) ?_
    refine GO.yldG (i := 14) rfl (by decide) rfl rfl (Yld.load rfl Try.isAgg30 (by repeat (first | with_reducible exact Pick.here | with_reducible apply Pick.there)) rfl) ?_
    refine GO.yldG (i := 15) rfl (by decide) rfl rfl (Yld.lookup (k := (k.1.toNat : Int)) key30 Try.runUnderlying115 Try.zeroValue22 rfl rfl (show Pick _ (mapA encH r4 nx) _ from by repeat (first | with_reducible exact Pick.here | with_reducible apply Pick.there))) ?_
    rw [hn]
    refine GO.x ?_
    refine GX.opG (i := 16) rfl (by decide) rfl rfl (OpC.call Try.call66 rfl (jBehind_spec b v1 v2 (.map (some r3)) (.map (some r4)) v5 k.2.2 n) (.cons (by repeat (first | with_reducible exact Pick.here | with_reducible apply Pick.there)) .nil)) fun _ => ?_
    refine GX.star ?_
    refine GX.lift ?_
    rintro rfl
    rw [hq]
    refine GX.yldG (i := 17) rfl (by decide) rfl rfl (Yld.pickF rfl rfl) ?_
    refine GX.yld (i := 18) rfl (by decide) (Yld.pickT rfl rfl) ?_
    refine GX.yld (i := 19) rfl (by decide) (Yld.assign rfl) ?_
    refine GX.done ?_
    refine G.ret ?_
    refine G.ret1 (.inr rfl) Try.results59 (.tmp rfl) ?_
    exact ⟨_, (.star (.lift rfl) (.star (.pick (by repeat (first | with_reducible exact Pick.here | with_reducible apply Pick.there))) (.star (.pick (by repeat (first | with_reducible exact Pick.here | with_reducible apply Pick.there))) (.pick (by repeat (first | with_reducible exact Pick.here | with_reducible apply Pick.there))))))⟩
theorem jNew_spec  : Sl.Spec Try.prog 24 [.bool true].toArray [] (fun v => ex fun b => star (lift (v = ptr b)) (isJ b [] [])) := by
  refine Sl.Spec.of_body (vs := [.bool true]) Try.func24 Try.ntmps24 (Nat.le_of_ble_eq_true rfl) rfl fun w0 F => ?_
  refine G.seq ?_
  refine G.region ?_
  refine G.yld (by decide) (Yld.assign rfl) ?_
  refine G.done ?_
  refine G.seq ?_
  refine G.region ?_
  refine G.yld (by decide) (Yld.move rfl) ?_
  refine G.opc (by decide) (OpC.makeMap) fun m1 => ?_
  refine G.opc (by decide) (OpC.makeMap) fun m2 => ?_
  refine G.opc (by decide) (OpC.makeMap) fun m3 => ?_
  refine G.opc (by decide) (OpC.makeMap) fun m4 => ?_
  refine G.yld (by decide) (Yld.buildS (cs := [_, _, _, _, _, _]) Try_z118 Try_pl118 rfl rfl (.cons rfl rfl (Nat.le_of_ble_eq_true rfl) (.cons rfl rfl (Nat.le_of_ble_eq_true rfl) (.cons rfl rfl (Nat.le_of_ble_eq_true rfl) (.cons rfl rfl (Nat.le_of_ble_eq_true rfl) (.cons rfl rfl (Nat.le_of_ble_eq_true rfl) .nil))))) rfl) ?_
  refine G.opc (by decide) (OpC.box (cs := [_, _, _, _, _, _]) rfl rfl) fun bj => ?_
  refine G.yld (by decide) (Yld.assign rfl) ?_
  refine G.done ?_
  refine G.ret ?_
  refine G.ret1 (.inr rfl) Try.results24 (.tmp rfl) ?_
  exact ⟨_, (.ex bj (.star (.lift rfl) (entJ (r1 := m1) (r2 := m2) (r3 := m3) (r4 := m4) (a := none) (c := 0) (.imp (.pick (A := cel true bj 118 _) (by repeat (first | with_reducible exact Pick.here | with_reducible apply Pick.there))) (fun _ h => by exact h)) (.imp (.pick (A := pt true m1 _) (by repeat (first | with_reducible exact Pick.here | with_reducible apply Pick.there))) (fun _ h => mapA_new h)) (.imp (.pick (A := pt true m2 _) (by repeat (first | with_reducible exact Pick.here | with_reducible apply Pick.there))) (fun _ h => mapA_new h)) (.imp (.pick (A := pt true m3 _) (by repeat (first | with_reducible exact Pick.here | with_reducible apply Pick.there))) (fun _ h => mapA_new h)) (.imp (.pick (A := pt true m4 _) (by repeat (first | with_reducible exact Pick.here | with_reducible apply Pick.there))) (fun _ h => mapA_new h)) (.imp .emp fun _ _ => sl_nil) .emp rfl rfl)))⟩
theorem jPass_spec (b : Nat) (nx : List (Int × Value)) (ms : List Msg) (t : UInt32) : Sl.Spec Try.prog 34 [ptr b, vU32 t].toArray [isJ b nx ms] (fun v => isJ b nx ms) := by
  refine Sl.Spec.of_body (vs := [ptr b, vU32 t]) Try.func34 Try.ntmps34 (Nat.le_of_ble_eq_true rfl) rfl fun w0 F => ?_
  refine G.openJ fun r1 r2 r3 r4 a c => ?_
  refine G.seq ?_
  refine G.region ?_
  refine G.yld (by decide) (Yld.move rfl) ?_
  refine G.yld (by decide) (Yld.nilCheck rfl) ?_
  refine G.yld (by decide) (Yld.fieldAddr Try_fo118_2 rfl) ?_
  refine G.yld (by decide) (Yld.load rfl Try.isAgg113 (by repeat (first | with_reducible exact Pick.here | with_reducible apply Pick.there)) rfl) ?_
  refine G.opc (by decide) (OpC.range (enc := encU) Try.runUnderlying113 rfl (by repeat (first | with_reducible exact Pick.here | with_reducible apply Pick.there))) fun bi => ?_
  refine G.done ?_
  refine G.block ?_
  refine G.loopE (X := Unit) (fun _ => [(0, ptr b), (1, vU32 t), (9, ptr bi)]) (fun _ => [jcel b r1 r2 r3 r4 (.slice a ms.length c), mapA encK r1 [], mapR encU r2 bi [] [], mapA encK r3 [], mapA encH r4 nx, sl true 5 (.slice a ms.length c) ms.length (msgc ms), isBs ms]) (fun _ => 0) () (.cons (t := 0) rfl (.cons (t := 1) rfl (.cons (t := 9) rfl .nil))) (.cons (.pick (by repeat (first | with_reducible exact Pick.here | with_reducible apply Pick.there))) (.cons (.pick (by repeat (first | with_reducible exact Pick.here | with_reducible apply Pick.there))) (.cons (.pick (by repeat (first | with_reducible exact Pick.here | with_reducible apply Pick.there))) (.cons (.pick (by repeat (first | with_reducible exact Pick.here | with_reducible apply Pick.there))) (.cons (.pick (by repeat (first | with_reducible exact Pick.here | with_reducible apply Pick.there))) (.cons (.pick (by repeat (first | with_reducible exact Pick.here | with_reducible apply Pick.there))) (.cons (.pick (by repeat (first | with_reducible exact Pick.here | with_reducible apply Pick.there))) .nil))))))) fun _ => ?_
  refine G.seq ?_
  refine G.region ?_
  refine G.opc (by decide) (OpC.next rfl (by repeat (first | with_reducible exact Pick.here | with_reducible apply Pick.there))) fun nx => ?_
  obtain _ | y := nx
  · refine G.lift fun hnx => ?_
    refine G.yld (by decide) (Yld.extract rfl rfl) ?_
    refine G.done ?_
    refine G.seq ?_
    refine G.condF rfl ?_
    refine G.exit ?_
    refine G.x_exit_then (G.x_exit_then ?_)
    refine G.x_exit_block (G.x_then ?_)
    refine G.unframe (by repeat (first | exact App.nil | apply App.cons)) ?_
    refine G.nil ?_
    refine G.ret0 (.inl rfl) Try.results34 ?_
    exact ⟨_, ((entJ (.pick (by repeat (first | with_reducible exact Pick.here | with_reducible apply Pick.there))) (.pick (by repeat (first | with_reducible exact Pick.here | with_reducible apply Pick.there))) (.pick (by repeat (first | with_reducible exact Pick.here | with_reducible apply Pick.there))) (.pick (by repeat (first | with_reducible exact Pick.here | with_reducible apply Pick.there))) (.pick (by repeat (first | with_reducible exact Pick.here | with_reducible apply Pick.there))) (.pick (by repeat (first | with_reducible exact Pick.here | with_reducible apply Pick.there))) (.pick (by repeat (first | with_reducible exact Pick.here | with_reducible apply Pick.there))) rfl rfl))⟩
  · refine G.lift fun hnx => ?_
    refine G.yld (by decide) (Yld.extract rfl rfl) ?_
    refine G.done ?_
    refine G.seq ?_
    refine G.condT rfl ?_
    exact absurd hnx.1 (by simp)
end Go.Fl
