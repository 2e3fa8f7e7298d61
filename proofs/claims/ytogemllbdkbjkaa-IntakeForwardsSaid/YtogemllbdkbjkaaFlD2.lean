/- Contracts, printed by a program of mine and proved by Lean. -/
import Derived.Test.YtogemllbdkbjkaaFlD1
set_option linter.unusedVariables false
set_option linter.unusedSimpArgs false
namespace Go.Fl
open Go Go.Sl Go.Proofs
set_option maxRecDepth 10000
set_option linter.unusedVariables false
theorem jHeld_spec (b : Nat) (nx : List (Int × Value)) (ms : List Msg) (hb : ∀ m ∈ ms, m.body.length ≤ 70000) (hs : ms.length ≤ 1000000) : Sl.Spec Try.prog 30 [ptr b].toArray [isJ b nx ms] (fun v => star (lift (v = vI (heldM ms.length ms))) (isJ b nx ms)) := by
  refine Sl.Spec.of_body (vs := [ptr b]) Try.func30 Try.ntmps30 (Nat.le_of_ble_eq_true rfl) rfl fun w0 F => ?_
  refine G.openJ fun r1 r2 r3 r4 a c => ?_
  refine G.seq ?_
  refine G.region ?_
  refine G.yld (by decide) (Yld.assign rfl) ?_
  refine G.done ?_
  refine G.seq ?_
  refine G.region ?_
  refine G.yld (by decide) (Yld.assign rfl) ?_
  refine G.done ?_
  refine G.seq ?_
  refine G.seq ?_
  refine G.region ?_
  refine G.yld (by decide) (Yld.move rfl) ?_
  refine G.yld (by decide) (Yld.nilCheck rfl) ?_
  refine G.yld (by decide) (Yld.fieldAddr Try_fo118_1 rfl) ?_
  refine G.yld (by decide) (Yld.load rfl Try.isAgg112 (by repeat (first | with_reducible exact Pick.here | with_reducible apply Pick.there)) rfl) ?_
  refine G.opc (by decide) (OpC.range (enc := encK) Try.runUnderlying112 rfl (by repeat (first | with_reducible exact Pick.here | with_reducible apply Pick.there))) fun b1 => ?_
  refine G.done ?_
  refine G.block ?_
  refine G.loopE (X := Unit) (fun _ => [(0, ptr b), (3, vI 0), (18, ptr b1)]) (fun _ => [jcel b r1 r2 r3 r4 (.slice a ms.length c), mapR encK r1 b1 [] [], mapA encU r2 [], mapA encK r3 [], mapA encH r4 nx, sl true 5 (.slice a ms.length c) ms.length (msgc ms), isBs ms]) (fun _ => 0) () (.cons (t := 0) rfl (.cons (t := 3) rfl (.cons (t := 18) rfl .nil))) (.cons (.pick (by repeat (first | with_reducible exact Pick.here | with_reducible apply Pick.there))) (.cons (.pick (by repeat (first | with_reducible exact Pick.here | with_reducible apply Pick.there))) (.cons (.pick (by repeat (first | with_reducible exact Pick.here | with_reducible apply Pick.there))) (.cons (.pick (by repeat (first | with_reducible exact Pick.here | with_reducible apply Pick.there))) (.cons (.pick (by repeat (first | with_reducible exact Pick.here | with_reducible apply Pick.there))) (.cons (.pick (by repeat (first | with_reducible exact Pick.here | with_reducible apply Pick.there))) (.cons (.pick (by repeat (first | with_reducible exact Pick.here | with_reducible apply Pick.there))) .nil))))))) fun _ => ?_
  refine G.seq ?_
  refine G.region ?_
  refine G.opc (by decide) (OpC.next rfl (by repeat (first | with_reducible exact Pick.here | with_reducible apply Pick.there))) fun nx => ?_
  obtain _ | y := nx
  · refine G.lift fun hnx => ?_
    refine G.yld (by decide) (Yld.extract rfl rfl) ?_
    refine G.done ?_
    refine G.seq ?_
    refine G.condF rfl ?_
    refine G.exit ?_
    refine G.x_exit_then (G.x_exit_then ?_)
    refine G.x_exit_block (G.x_then ?_)
    refine G.unframe (by repeat (first | exact App.nil | apply App.cons)) ?_
    refine G.seq ?_
    refine G.seq ?_
    refine G.region ?_
    refine G.yld (by decide) (Yld.move rfl) ?_
    refine G.yld (by decide) (Yld.nilCheck rfl) ?_
    refine G.yld (by decide) (Yld.fieldAddr Try_fo118_2 rfl) ?_
    refine G.yld (by decide) (Yld.load rfl Try.isAgg113 (by repeat (first | with_reducible exact Pick.here | with_reducible apply Pick.there)) rfl) ?_
    refine G.opc (by decide) (OpC.range (enc := encU) Try.runUnderlying113 rfl (by repeat (first | with_reducible exact Pick.here | with_reducible apply Pick.there))) fun b2 => ?_
    refine G.done ?_
    refine G.block ?_
    refine G.loopE (X := Unit) (fun _ => [(0, ptr b), (3, vI 0), (38, ptr b2)]) (fun _ => [jcel b r1 r2 r3 r4 (.slice a ms.length c), mapA encK r1 [], mapR encU r2 b2 [] [], mapA encK r3 [], mapA encH r4 nx, sl true 5 (.slice a ms.length c) ms.length (msgc ms), isBs ms]) (fun _ => 0) () (.cons (t := 0) rfl (.cons (t := 3) rfl (.cons (t := 38) rfl .nil))) (.cons (.pick (by repeat (first | with_reducible exact Pick.here | with_reducible apply Pick.there))) (.cons (.pick (by repeat (first | with_reducible exact Pick.here | with_reducible apply Pick.there))) (.cons (.pick (by repeat (first | with_reducible exact Pick.here | with_reducible apply Pick.there))) (.cons (.pick (by repeat (first | with_reducible exact Pick.here | with_reducible apply Pick.there))) (.cons (.pick (by repeat (first | with_reducible exact Pick.here | with_reducible apply Pick.there))) (.cons (.pick (by repeat (first | with_reducible exact Pick.here | with_reducible apply Pick.there))) (.cons (.pick (by repeat (first | with_reducible exact Pick.here | with_reducible apply Pick.there))) .nil))))))) fun _ => ?_
    refine G.seq ?_
    refine G.region ?_
    refine G.opc (by decide) (OpC.next rfl (by repeat (first | with_reducible exact Pick.here | with_reducible apply Pick.there))) fun nx => ?_
    obtain _ | y := nx
    · refine G.lift fun hnx => ?_
      refine G.yld (by decide) (Yld.extract rfl rfl) ?_
      refine G.done ?_
      refine G.seq ?_
      refine G.condF rfl ?_
      refine G.exit ?_
      refine G.x_exit_then (G.x_exit_then ?_)
      refine G.x_exit_block (G.x_then ?_)
      refine G.unframe (by repeat (first | exact App.nil | apply App.cons)) ?_
      refine G.seq ?_
      refine G.seq ?_
      refine G.region ?_
      refine G.yld (by decide) (Yld.move rfl) ?_
      refine G.yld (by decide) (Yld.nilCheck rfl) ?_
      refine G.yld (by decide) (Yld.fieldAddr Try_fo118_3 rfl) ?_
      refine G.yld (by decide) (Yld.load rfl Try.isAgg114 (by repeat (first | with_reducible exact Pick.here | with_reducible apply Pick.there)) rfl) ?_
      refine G.opc (by decide) (OpC.range (enc := encK) Try.runUnderlying114 rfl (by repeat (first | with_reducible exact Pick.here | with_reducible apply Pick.there))) fun b3 => ?_
      refine G.done ?_
      refine G.block ?_
      refine G.loopE (X := Unit) (fun _ => [(0, ptr b), (3, vI 0), (52, ptr b3)]) (fun _ => [jcel b r1 r2 r3 r4 (.slice a ms.length c), mapA encK r1 [], mapA encU r2 [], mapR encK r3 b3 [] [], mapA encH r4 nx, sl true 5 (.slice a ms.length c) ms.length (msgc ms), isBs ms]) (fun _ => 0) () (.cons (t := 0) rfl (.cons (t := 3) rfl (.cons (t := 52) rfl .nil))) (.cons (.pick (by repeat (first | with_reducible exact Pick.here | with_reducible apply Pick.there))) (.cons (.pick (by repeat (first | with_reducible exact Pick.here | with_reducible apply Pick.there))) (.cons (.pick (by repeat (first | with_reducible exact Pick.here | with_reducible apply Pick.there))) (.cons (.pick (by repeat (first | with_reducible exact Pick.here | with_reducible apply Pick.there))) (.cons (.pick (by repeat (first | with_reducible exact Pick.here | with_reducible apply Pick.there))) (.cons (.pick (by repeat (first | with_reducible exact Pick.here | with_reducible apply Pick.there))) (.cons (.pick (by repeat (first | with_reducible exact Pick.here | with_reducible apply Pick.there))) .nil))))))) fun _ => ?_
      refine G.seq ?_
      refine G.region ?_
      refine G.opc (by decide) (OpC.next rfl (by repeat (first | with_reducible exact Pick.here | with_reducible apply Pick.there))) fun nx => ?_
      obtain _ | y := nx
      · refine G.lift fun hnx => ?_
        refine G.yld (by decide) (Yld.extract rfl rfl) ?_
        refine G.done ?_
        refine G.seq ?_
        refine G.condF rfl ?_
        refine G.exit ?_
        refine G.x_exit_then (G.x_exit_then ?_)
        refine G.x_exit_block (G.x_then ?_)
        refine G.unframe (by repeat (first | exact App.nil | apply App.cons)) ?_
        refine G.seq ?_
        refine G.seq ?_
        refine G.region ?_
        refine G.yld (by decide) (Yld.move rfl) ?_
        refine G.yld (by decide) (Yld.nilCheck rfl) ?_
        refine G.yld (by decide) (Yld.fieldAddr Try_fo118_5 rfl) ?_
        refine G.yld (by decide) (Yld.load rfl Try.isAgg116 (by repeat (first | with_reducible exact Pick.here | with_reducible apply Pick.there)) rfl) ?_
        refine G.yld (by decide) (Yld.len_slice Try.runUnderlying116 rfl) ?_
        refine G.yld (by decide) (Yld.move rfl) ?_
        refine G.done ?_
        refine G.block ?_
        refine G.loopE (X := Nat) (fun i => [(3, vI (heldM i ms)), (65, .slice a ms.length c), (66, vI ms.length), (67, vI i)]) (fun i => [lift (i ≤ ms.length), jcel b r1 r2 r3 r4 (.slice a ms.length c), mapA encK r1 [], mapA encU r2 [], mapA encK r3 [], mapA encH r4 nx, sl true 5 (.slice a ms.length c) ms.length (msgc ms), isBs ms]) (fun i => ms.length - i) 0 (.cons (t := 3) rfl (.cons (t := 65) rfl (.cons (t := 66) rfl (.cons (t := 67) rfl .nil)))) (.cons (.lift (Nat.zero_le _)) (.cons (.pick (by repeat (first | with_reducible exact Pick.here | with_reducible apply Pick.there))) (.cons (.pick (by repeat (first | with_reducible exact Pick.here | with_reducible apply Pick.there))) (.cons (.pick (by repeat (first | with_reducible exact Pick.here | with_reducible apply Pick.there))) (.cons (.pick (by repeat (first | with_reducible exact Pick.here | with_reducible apply Pick.there))) (.cons (.pick (by repeat (first | with_reducible exact Pick.here | with_reducible apply Pick.there))) (.cons (.pick (by repeat (first | with_reducible exact Pick.here | with_reducible apply Pick.there))) (.cons (.pick (by repeat (first | with_reducible exact Pick.here | with_reducible apply Pick.there))) .nil)))))))) fun i => ?_
        refine G.lift fun hi => ?_
        refine G.seq ?_
        refine G.region ?_
        refine G.yld (by decide) (Yld.lss_i rfl rfl) ?_
        refine G.done ?_
        refine G.seq ?_
        refine G.condP rfl (fun hlt => ?_) (fun hlt => ?_)
        · have hi2 : i < ms.length := by omega
          obtain ⟨m, hm⟩ : ∃ m, ms[i]? = some m := ⟨_, List.getElem?_eq_getElem hi2⟩
          have hh := heldM_le hb i (by omega)
          have hmb := hb m (List.mem_of_getElem? hm)
          refine G.skip ?_
          refine G.seq ?_
          refine G.block ?_
          refine G.seq ?_
          refine G.region ?_
          refine G.yld (by decide) (Yld.indexE Try.runUnderlying116 Try.sizeOf68 rfl rfl (by repeat (first | with_reducible exact Pick.here | with_reducible apply Pick.there)) (by decide) (by omega) (by omega)) ?_
          refine G.yld (by decide) (Yld.loadAggE (us := (msgv m)) Try.isAgg68 Try.sizeOf68 rfl (by repeat (first | with_reducible exact Pick.here | with_reducible apply Pick.there)) rfl (by decide) (by rw [Int.toNat_natCast]; exact msgc_at hm)) ?_
          refine G.opc (by decide) (OpC.alloc (cs := [.int .u16 0, .bool false, .int .u32 0, .int .u32 0, .slice none 0 0]) Try.zeroValue68 rfl) fun b4 => ?_
          refine G.op0  (OpC.storeAgg (k := 5) Try.sizeOf68 rfl rfl rfl rfl (by repeat (first | with_reducible exact Pick.here | with_reducible apply Pick.there)) (setWhole rfl) (Nat.le_of_ble_eq_true rfl)) fun _ => ?_
          refine G.done ?_
          refine G.region ?_
          refine G.yld (by decide) (Yld.move rfl) ?_
          refine G.yld (by decide) (Yld.fieldAddr Try_fo68_4 rfl) ?_
          refine G.yld (by decide) (Yld.load rfl Try.isAgg23 (by repeat (first | with_reducible exact Pick.here | with_reducible apply Pick.there)) rfl) ?_
          refine G.yld (by decide) (Yld.len_slice Try.runUnderlying23 rfl) ?_
          refine G.yld (by decide) (Yld.add_i rfl rfl (by omega)) ?_
          refine G.yld (by decide) (Yld.assign rfl) ?_
          refine G.done ?_
          refine G.nil ?_
          refine G.x_block (G.x_then ?_)
          refine G.region ?_
          refine G.yld (by decide) (Yld.add_i (b := (1 : Int)) rfl rfl (by omega)) ?_
          refine G.yld (by decide) (Yld.move rfl) ?_
          refine G.done ?_
          refine G.nil ?_
          refine G.x_then ?_
          exact G.againE (i + 1) (by omega) (.as (t := 3) rfl (congrArg vI (by rw [heldM_succ hm])) (.cons (t := 65) rfl (.cons (t := 66) rfl (.cons (t := 67) rfl .nil)))) (.cons (.lift (by omega)) (.cons (.pick (by repeat (first | with_reducible exact Pick.here | with_reducible apply Pick.there))) (.cons (.pick (by repeat (first | with_reducible exact Pick.here | with_reducible apply Pick.there))) (.cons (.pick (by repeat (first | with_reducible exact Pick.here | with_reducible apply Pick.there))) (.cons (.pick (by repeat (first | with_reducible exact Pick.here | with_reducible apply Pick.there))) (.cons (.pick (by repeat (first | with_reducible exact Pick.here | with_reducible apply Pick.there))) (.cons (.pick (by repeat (first | with_reducible exact Pick.here | with_reducible apply Pick.there))) (.cons (.pick (by repeat (first | with_reducible exact Pick.here | with_reducible apply Pick.there))) .nil))))))))
        · have hi2 : i = ms.length := by omega
          subst hi2
          refine G.exit ?_
          refine G.x_exit_then (G.x_exit_then ?_)
          refine G.x_exit_block (G.x_then ?_)
          refine G.unframe (by repeat (first | exact App.nil | apply App.cons)) ?_
          refine G.seq ?_
          refine G.region ?_
          refine G.yld (by decide) (Yld.move rfl) ?_
          refine G.yld (by decide) (Yld.assign rfl) ?_
          refine G.done ?_
          refine G.ret ?_
          refine G.ret1 (.inr rfl) Try.results30 (.tmp rfl) ?_
          exact ⟨_, (.star (.lift rfl) (entJ (.pick (by repeat (first | with_reducible exact Pick.here | with_reducible apply Pick.there))) (.pick (by repeat (first | with_reducible exact Pick.here | with_reducible apply Pick.there))) (.pick (by repeat (first | with_reducible exact Pick.here | with_reducible apply Pick.there))) (.pick (by repeat (first | with_reducible exact Pick.here | with_reducible apply Pick.there))) (.pick (by repeat (first | with_reducible exact Pick.here | with_reducible apply Pick.there))) (.pick (by repeat (first | with_reducible exact Pick.here | with_reducible apply Pick.there))) (.pick (by repeat (first | with_reducible exact Pick.here | with_reducible apply Pick.there))) rfl rfl))⟩
      · refine G.lift fun hnx => ?_
        refine G.yld (by decide) (Yld.extract rfl rfl) ?_
        refine G.done ?_
        refine G.seq ?_
        refine G.condT rfl ?_
        exact absurd hnx.1 (by simp)
    · refine G.lift fun hnx => ?_
      refine G.yld (by decide) (Yld.extract rfl rfl) ?_
      refine G.done ?_
      refine G.seq ?_
      refine G.condT rfl ?_
      exact absurd hnx.1 (by simp)
  · refine G.lift fun hnx => ?_
    refine G.yld (by decide) (Yld.extract rfl rfl) ?_
    refine G.done ?_
    refine G.seq ?_
    refine G.condT rfl ?_
    exact absurd hnx.1 (by simp)
end Go.Fl
