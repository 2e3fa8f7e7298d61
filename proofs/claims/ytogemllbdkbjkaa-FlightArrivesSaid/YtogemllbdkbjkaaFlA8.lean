/- Contracts, printed by a program of mine and proved by Lean. -/
import Derived.Test.YtogemllbdkbjkaaFlA7
set_option linter.unusedVariables false
set_option linter.unusedSimpArgs false
namespace Go.Fl
open Go Go.Sl Go.Proofs
set_option maxRecDepth 10000
set_option linter.unusedVariables false
theorem ack_spec {m : Bool} (b : Nat) (f : Fm) (c : Ck) (gv : Value) (gs : List (UInt16 × UInt16)) (now : UInt32) (hf : f.ok) (hgs : gs.length < 1000000000) : Sl.Spec Try.prog 17 [ptr b, .agg (ckv c gv nilS nilS nilS nilS).toArray, vU32 now].toArray [isF b f, sl m 2 gv gs.length (gpc gs)] (fun v => star (lift (v = (f.ack c.kind c.tsn gs now).1.val)) (star (isF b (f.ack c.kind c.tsn gs now).2) (sl m 2 gv gs.length (gpc gs)))) := by
  refine Sl.Spec.of_body (vs := [ptr b, .agg (ckv c gv nilS nilS nilS nilS).toArray, vU32 now]) Try.func17 Try.ntmps17 (Nat.le_of_ble_eq_true rfl) rfl fun w0 F => ?_
  have hsmall := hf.len
  refine G.seq ?_
  refine G.fact (A := sl m 2 gv _ _) (.there .here) sl_cell fun hgv => ?_
  refine G.region ?_
  refine G.opc (by decide) (OpC.box (cs := [_]) rfl rfl) fun b3 => ?_
  refine G.opc (by decide) (OpC.box (cs := (ckv c gv nilS nilS nilS nilS)) rfl rfl) fun b4 => ?_
  refine G.opc (by decide) (OpC.box (cs := [_]) rfl rfl) fun b5 => ?_
  refine G.opc (by decide) (OpC.alloc (cs := [.int .i64 0, .bool false, .bool false, .int .i64 0, .bool false]) Try.zeroValue59 rfl) fun b6 => ?_
  refine G.done ?_
  refine G.seq ?_
  refine G.region ?_
  refine G.yld (by decide) (Yld.buildS (cs := [_, _, _, _, _]) Try_z59 Try_pl59 rfl rfl (.cons rfl rfl (Nat.le_of_ble_eq_true rfl) .nil) rfl) ?_
  refine G.opc (by decide) (OpC.alloc (cs := [.int .i64 0, .bool false, .bool false, .int .i64 0, .bool false]) Try.zeroValue59 rfl) fun b7 => ?_
  refine G.op0  (OpC.storeAgg (k := 5) Try.sizeOf59 rfl rfl rfl rfl (by repeat (first | with_reducible exact Pick.here | with_reducible apply Pick.there)) (setWhole rfl) (Nat.le_of_ble_eq_true rfl)) fun _ => ?_
  refine G.done ?_
  refine G.seq ?_
  refine G.seq ?_
  refine G.region ?_
  refine G.yld (by decide) (Yld.load rfl Try.isAgg40 (by repeat (first | with_reducible exact Pick.here | with_reducible apply Pick.there)) rfl) ?_
  refine G.yld (by decide) (Yld.loadAgg (cs := [_, _, _, _, _, _, _, _, _, _, _, _, _, _, _, _, _, _, _]) rfl Try.isAgg36 Try.sizeOf36 (by repeat (first | with_reducible exact Pick.here | with_reducible apply Pick.there)) rfl (aggAt rfl)) ?_
  refine G.opc (by decide) (OpC.call Try.call48 rfl (bad_spec (m := m) b f c gv gs hf hgs) (.cons (by repeat (first | with_reducible exact Pick.here | with_reducible apply Pick.there)) (.cons (by repeat (first | with_reducible exact Pick.here | with_reducible apply Pick.there)) .nil))) fun v => ?_
  refine G.star ?_
  refine G.lift ?_
  rintro rfl
  refine G.star ?_
  refine G.yld (by decide) (Yld.fieldAddr Try_fo59_4 rfl) ?_
  refine G.op0  (OpC.storeS (.succ (.succ (.succ (.succ .zero)))) Try.sizeOf4 rfl rfl rfl (by repeat (first | with_reducible exact Pick.here | with_reducible apply Pick.there))) fun _ => ?_
  refine G.done ?_
  refine G.seq ?_
  refine G.region ?_
  refine G.yld (by decide) (Yld.fieldAddr Try_fo59_4 rfl) ?_
  refine G.yld (by decide) (Yld.load rfl Try.isAgg4 (by repeat (first | with_reducible exact Pick.here | with_reducible apply Pick.there)) rfl) ?_
  refine G.done ?_
  refine G.cond rfl (fun hbad => ?_) (fun hbad => ?_)
  · have hA : f.ack c.kind c.tsn gs now = (⟨0, false, false, -1, true⟩, f) := by simp only [Fm.ack, if_pos hbad]
    refine G.seq ?_
    refine G.region ?_
    refine G.yld (by decide) (Yld.loadAgg (cs := [_, _, _, _, _]) rfl Try.isAgg59 Try.sizeOf59 (by repeat (first | with_reducible exact Pick.here | with_reducible apply Pick.there)) rfl (aggAt rfl)) ?_
    refine G.op0  (OpC.storeAgg (k := 5) Try.sizeOf59 rfl rfl rfl rfl (by repeat (first | with_reducible exact Pick.here | with_reducible apply Pick.there)) (setWhole rfl) (Nat.le_of_ble_eq_true rfl)) fun _ => ?_
    refine G.done ?_
    refine G.ret ?_
    rw [hA]
    refine G.ret1 (.inr rfl) Try.results17 (.agg (cs := [_, _, _, _, _]) rfl Try.isAgg59 Try.sizeOf59 (by repeat (first | with_reducible exact Pick.here | with_reducible apply Pick.there)) rfl (aggAt rfl)) ?_
    exact ⟨_, (.star (.lift (by simp [Acked.val, hbad])) (.star (.pick (A := isF b f) (by repeat (first | with_reducible exact Pick.here | with_reducible apply Pick.there))) (.pick (A := sl m 2 gv _ _) (by repeat (first | with_reducible exact Pick.here | with_reducible apply Pick.there)))))⟩
  · have hbn : ¬ f.bad c.kind c.tsn gs = true := by simp [hbad]
    have hG := good_n hf hbn
    obtain ⟨n0, hn0⟩ : ∃ n0, (dist f.mark c.tsn).toNat = n0 := ⟨_, rfl⟩
    rw [hn0] at hG
    obtain ⟨hnl, hgl⟩ := hG
    refine G.pick (A := sl m 2 gv _ _) (by repeat (first | with_reducible exact Pick.here | with_reducible apply Pick.there)) (G.slv fun ag capg hvg hleg hlg => ?_)
    subst hvg
    have hbad2 : f.bad c.kind c.tsn gs = false := hbad
    refine G.conv (A := cel true b7 59 _) (by repeat (first | with_reducible exact Pick.here | with_reducible apply Pick.there)) (A' := cel true b7 59 [vI 0, .bool false, .bool false, vI (-1), .bool false]) (fun _ h => by simpa [hbad2] using h) ?_
    refine G.skip ?_
    refine G.seq ?_
    refine G.pick (A := isF b f) (by repeat (first | with_reducible exact Pick.here | with_reducible apply Pick.there)) ?_
    refine G.openF fun v bs r hlen => ?_
    refine G.pick (A := sl true 1 v _ _) (by repeat (first | with_reducible exact Pick.here | with_reducible apply Pick.there)) (G.slv fun a cap hv hle hl => ?_)
    subst hv
    refine G.draw Try_mixed (.still 0 (.still 1 (.still 2 (.still 3 (.still 4 (.still 5 (.loud 6 true (.still 7 (.still 8 (.done)))))))))) (by kernel_rfl) (.cons (A := cel _ b3 _ _) (by repeat (first | with_reducible exact Pick.here | with_reducible apply Pick.there)) (.cons (A := cel _ b _ _) (by repeat (first | with_reducible exact Pick.here | with_reducible apply Pick.there)) (.cons (A := cel _ b4 _ _) (by repeat (first | with_reducible exact Pick.here | with_reducible apply Pick.there)) .nil))) ?_
    refine GO.yld (i := 0) rfl (by decide) (Yld.load rfl Try.isAgg40 (by repeat (first | with_reducible exact Pick.here | with_reducible apply Pick.there)) rfl) ?_
    refine GO.yld (i := 1) rfl (by decide) (Yld.nilCheck rfl) ?_
    refine GO.yld (i := 2) rfl (by decide) (Yld.fieldAddr Try_fo87_0 rfl) ?_
    refine GO.yld (i := 3) rfl (by decide) (Yld.load rfl Try.isAgg22 (by repeat (first | with_reducible exact Pick.here | with_reducible apply Pick.there)) rfl) ?_
    refine GO.yld (i := 4) rfl (by decide) (Yld.fieldAddr Try_fo36_5 rfl) ?_
    refine GO.yld (i := 5) rfl (by decide) (Yld.load rfl Try.isAgg22 (by repeat (first | with_reducible exact Pick.here | with_reducible apply Pick.there)) rfl) ?_
    refine GO.opc (i := 6) rfl (by decide) (OpC.call Try.call26 rfl (dist_spec _ _) .nil) (fun _ => (.cons (A := cel _ b3 _ _) (by repeat (first | with_reducible exact Pick.here | with_reducible apply Pick.there)) (.cons (A := cel _ b _ _) (by repeat (first | with_reducible exact Pick.here | with_reducible apply Pick.there)) (.cons (A := cel _ b4 _ _) (by repeat (first | with_reducible exact Pick.here | with_reducible apply Pick.there)) .nil)))) fun v => ?_
    refine GO.lift ?_
    rintro rfl
    refine GO.yld (i := 7) rfl (by decide) (Yld.conv_u32_i Try.runUnderlying22 Try.runUnderlying3 rfl) ?_
    refine GO.yld (i := 8) rfl (by decide) (Yld.assign rfl) ?_
    refine GO.done ?_
    refine G.seq ?_
    refine G.region ?_
    refine G.opc (by decide) (OpC.alloc (cs := [.int .i64 0]) Try.zeroValue3 rfl) fun b9 => ?_
    refine G.op0  (OpC.storeS .zero Try.sizeOf3 rfl rfl rfl (by repeat (first | with_reducible exact Pick.here | with_reducible apply Pick.there))) fun _ => ?_
    refine G.done ?_
    refine G.seq ?_
    refine G.region ?_
    refine G.yld (by decide) (Yld.makeFunc (vs := [_, _, _, _]) rfl) ?_
    refine G.yld (by decide) (Yld.assign rfl) ?_
    refine G.done ?_
    refine G.seq ?_
    refine G.seq ?_
    refine G.region ?_
    refine G.yld (by decide) (Yld.move rfl) ?_
    refine G.yld (by decide) (Yld.move rfl) ?_
    refine G.done ?_
    refine G.block ?_
    have hs0 := start_ok hf
    refine G.loopE (X := Nat) (fun k => [(3, ptr b3), (4, ptr b4), (5, ptr b5), (6, ptr b6), (7, ptr b7), (9, ptr b9), (8, vI n0), (10, .func (.func 49) #[] #[ptr b3, ptr b7, ptr b5, ptr b9]), (34, vI n0), (35, vI k)]) (fun k => [lift (k ≤ n0), cel true b3 40 [ptr b], cel true b7 59 [vI (Ak.run now 0 k ⟨f.ps, 0, -1, -1⟩).bytes, .bool false, .bool (false), vI (Ak.run now 0 k ⟨f.ps, 0, -1, -1⟩).rtt, .bool false], cel true b5 22 [vU32 now], cel true b9 3 [vI (Ak.run now 0 k ⟨f.ps, 0, -1, -1⟩).top], cel true b 87 [vU32 f.mark, (.slice a f.ps.length cap), .map (some r)], sl true 1 (.slice a f.ps.length cap) f.ps.length (ptc bs), isPs bs (Ak.run now 0 k ⟨f.ps, 0, -1, -1⟩).ps, mapA encI r (goneC f.gone), cel true b4 36 (ckv c (.slice ag gs.length capg) nilS nilS nilS nilS), cel true b6 59 [.int .i64 0, .bool false, .bool false, .int .i64 0, .bool false], sl m 2 (.slice ag gs.length capg) gs.length (gpc gs)]) (fun k => n0 - k) 0 (.cons (t := 3) rfl (.cons (t := 4) rfl (.cons (t := 5) rfl (.cons (t := 6) rfl (.cons (t := 7) rfl (.cons (t := 9) rfl (.as (t := 8) rfl (congrArg vI (congrArg Int.ofNat hn0)) (.cons (t := 10) rfl (.as (t := 34) rfl (congrArg vI (congrArg Int.ofNat hn0)) (.cons (t := 35) rfl .nil)))))))))) (.cons (.lift (Nat.zero_le _)) (by simp only [Ak.run]; exact Ents.of_picks (.cons (by repeat (first | with_reducible exact Pick.here | with_reducible apply Pick.there)) (.cons (by repeat (first | with_reducible exact Pick.here | with_reducible apply Pick.there)) (.cons (by repeat (first | with_reducible exact Pick.here | with_reducible apply Pick.there)) (.cons (by repeat (first | with_reducible exact Pick.here | with_reducible apply Pick.there)) (.cons (by repeat (first | with_reducible exact Pick.here | with_reducible apply Pick.there)) (.cons (by repeat (first | with_reducible exact Pick.here | with_reducible apply Pick.there)) (.cons (by repeat (first | with_reducible exact Pick.here | with_reducible apply Pick.there)) (.cons (by repeat (first | with_reducible exact Pick.here | with_reducible apply Pick.there)) (.cons (by repeat (first | with_reducible exact Pick.here | with_reducible apply Pick.there)) (.cons (by repeat (first | with_reducible exact Pick.here | with_reducible apply Pick.there)) (.cons (by repeat (first | with_reducible exact Pick.here | with_reducible apply Pick.there)) .nil))))))))))))) fun k => ?_
    refine G.lift fun hk => ?_
    refine G.seq ?_
    refine G.region ?_
    refine G.yld (by decide) (Yld.lss_i rfl rfl) ?_
    refine G.done ?_
    refine G.seq ?_
    refine G.condP rfl (fun hlt => ?_) (fun hlt => ?_)
    · have hsk : (Ak.run now 0 k ⟨f.ps, 0, -1, -1⟩).ok := run_ok k 0 hs0
      refine G.skip ?_
      refine G.seq ?_
      refine G.block ?_
      refine G.seq ?_
      refine G.region ?_
      refine G.yld (by decide) (Yld.move rfl) ?_
      refine G.yld (by decide) (Yld.assign rfl) ?_
      refine G.done ?_
      refine G.region ?_
      refine G.yld (by decide) (Yld.move rfl) ?_
      refine G.yld (by decide) (Yld.move rfl) ?_
      refine G.opc (by decide) (OpC.callV (caps := [ptr b3, ptr b7, ptr b5, ptr b9]) Try.call49 rfl rfl rfl (arrive_spec b b3 b7 b5 b9 _ false false false now f.mark _ _ bs f.ps.length (k) hsk (run_len k 0 _) (by omega) hsmall) (.cons (by repeat (first | with_reducible exact Pick.here | with_reducible apply Pick.there)) (.cons (by repeat (first | with_reducible exact Pick.here | with_reducible apply Pick.there)) (.cons (by repeat (first | with_reducible exact Pick.here | with_reducible apply Pick.there)) (.cons (by repeat (first | with_reducible exact Pick.here | with_reducible apply Pick.there)) (.cons (by repeat (first | with_reducible exact Pick.here | with_reducible apply Pick.there)) (.cons (by repeat (first | with_reducible exact Pick.here | with_reducible apply Pick.there)) (.cons (by repeat (first | with_reducible exact Pick.here | with_reducible apply Pick.there)) .nil)))))))) fun _ => ?_
      refine G.star7 ?_
      refine G.done ?_
      refine G.nil ?_
      refine G.x_block (G.x_then ?_)
      refine G.region ?_
      refine G.yld (by decide) (Yld.add_i (b := (1 : Int)) rfl rfl (by omega)) ?_
      refine G.yld (by decide) (Yld.move rfl) ?_
      refine G.done ?_
      refine G.nil ?_
      refine G.x_then ?_
      exact G.againE (k + 1) (by omega) (.cons (t := 3) rfl (.cons (t := 4) rfl (.cons (t := 5) rfl (.cons (t := 6) rfl (.cons (t := 7) rfl (.cons (t := 9) rfl (.cons (t := 8) rfl (.cons (t := 10) rfl (.cons (t := 34) rfl (.cons (t := 35) rfl .nil)))))))))) (.cons (.lift (by omega)) (by rw [run_succ, Nat.zero_add]; exact Ents.of_picks (.cons (by repeat (first | with_reducible exact Pick.here | with_reducible apply Pick.there)) (.cons (by repeat (first | with_reducible exact Pick.here | with_reducible apply Pick.there)) (.cons (by repeat (first | with_reducible exact Pick.here | with_reducible apply Pick.there)) (.cons (by repeat (first | with_reducible exact Pick.here | with_reducible apply Pick.there)) (.cons (by repeat (first | with_reducible exact Pick.here | with_reducible apply Pick.there)) (.cons (by repeat (first | with_reducible exact Pick.here | with_reducible apply Pick.there)) (.cons (by repeat (first | with_reducible exact Pick.here | with_reducible apply Pick.there)) (.cons (by repeat (first | with_reducible exact Pick.here | with_reducible apply Pick.there)) (.cons (by repeat (first | with_reducible exact Pick.here | with_reducible apply Pick.there)) (.cons (by repeat (first | with_reducible exact Pick.here | with_reducible apply Pick.there)) (.cons (by repeat (first | with_reducible exact Pick.here | with_reducible apply Pick.there)) .nil)))))))))))))
    · have hk2 : n0 = k := by omega
      subst hk2
      refine G.exit ?_
      refine G.x_exit_then (G.x_exit_then ?_)
      refine G.x_exit_block (G.x_then ?_)
      refine G.unframe (by repeat (first | exact App.nil | apply App.cons)) ?_
      refine G.seq ?_
      refine G.seq ?_
      refine G.region ?_
      refine G.yld (by decide) (Yld.fieldAddr Try_fo36_14 rfl) ?_
      refine G.yld (by decide) (Yld.load rfl Try.isAgg31 (by repeat (first | with_reducible exact Pick.here | with_reducible apply Pick.there)) rfl) ?_
      refine G.yld (by decide) (Yld.len_slice Try.runUnderlying31 rfl) ?_
      refine G.yld (by decide) (Yld.move rfl) ?_
      refine G.done ?_
      refine G.block ?_
      have hs1 : (Ak.run now 0 n0 ⟨f.ps, 0, -1, -1⟩).ok := run_ok n0 0 hs0
      have hl1 : (Ak.run now 0 n0 ⟨f.ps, 0, -1, -1⟩).ps.length = f.ps.length := run_len n0 0 _
      refine G.loopE (X := Nat) (fun k => [(3, ptr b3), (4, ptr b4), (5, ptr b5), (6, ptr b6), (7, ptr b7), (8, vI n0), (9, ptr b9), (10, .func (.func 49) #[] #[ptr b3, ptr b7, ptr b5, ptr b9]), (43, .slice ag gs.length capg), (44, vI gs.length), (45, vI k)]) (fun k => [lift (k ≤ gs.length), cel true b3 40 [ptr b], cel true b7 59 [vI (Ak.gaps now n0 (gs.take k) (Ak.run now 0 n0 ⟨f.ps, 0, -1, -1⟩)).bytes, .bool false, .bool (false), vI (Ak.gaps now n0 (gs.take k) (Ak.run now 0 n0 ⟨f.ps, 0, -1, -1⟩)).rtt, .bool false], cel true b5 22 [vU32 now], cel true b9 3 [vI (Ak.gaps now n0 (gs.take k) (Ak.run now 0 n0 ⟨f.ps, 0, -1, -1⟩)).top], cel true b 87 [vU32 f.mark, (.slice a f.ps.length cap), .map (some r)], sl true 1 (.slice a f.ps.length cap) f.ps.length (ptc bs), isPs bs (Ak.gaps now n0 (gs.take k) (Ak.run now 0 n0 ⟨f.ps, 0, -1, -1⟩)).ps, mapA encI r (goneC f.gone), cel true b4 36 (ckv c (.slice ag gs.length capg) nilS nilS nilS nilS), cel true b6 59 [.int .i64 0, .bool false, .bool false, .int .i64 0, .bool false], sl m 2 (.slice ag gs.length capg) gs.length (gpc gs)]) (fun k => gs.length - k) 0 (.cons (t := 3) rfl (.cons (t := 4) rfl (.cons (t := 5) rfl (.cons (t := 6) rfl (.cons (t := 7) rfl (.cons (t := 8) rfl (.cons (t := 9) rfl (.cons (t := 10) rfl (.cons (t := 43) rfl (.cons (t := 44) rfl (.cons (t := 45) rfl .nil))))))))))) (.cons (.lift (Nat.zero_le _)) (by simp only [List.take_zero, Ak.gaps]; exact Ents.of_picks (.cons (by repeat (first | with_reducible exact Pick.here | with_reducible apply Pick.there)) (.cons (by repeat (first | with_reducible exact Pick.here | with_reducible apply Pick.there)) (.cons (by repeat (first | with_reducible exact Pick.here | with_reducible apply Pick.there)) (.cons (by repeat (first | with_reducible exact Pick.here | with_reducible apply Pick.there)) (.cons (by repeat (first | with_reducible exact Pick.here | with_reducible apply Pick.there)) (.cons (by repeat (first | with_reducible exact Pick.here | with_reducible apply Pick.there)) (.cons (by repeat (first | with_reducible exact Pick.here | with_reducible apply Pick.there)) (.cons (by repeat (first | with_reducible exact Pick.here | with_reducible apply Pick.there)) (.cons (by repeat (first | with_reducible exact Pick.here | with_reducible apply Pick.there)) (.cons (by repeat (first | with_reducible exact Pick.here | with_reducible apply Pick.there)) (.cons (by repeat (first | with_reducible exact Pick.here | with_reducible apply Pick.there)) .nil))))))))))))) fun k => ?_
      refine G.lift fun hk => ?_
      refine G.seq ?_
      refine G.region ?_
      refine G.yld (by decide) (Yld.lss_i rfl rfl) ?_
      refine G.done ?_
      refine G.seq ?_
      refine G.condP rfl (fun hlt => ?_) (fun hlt => ?_)
      · obtain ⟨g, hg⟩ : ∃ g, gs[k]? = some g := ⟨gs[k]'(by omega), by simp⟩
        obtain ⟨hg1, hg2, hg3⟩ := hgl g (List.mem_of_getElem? hg)
        have hg4 : g.2.toNat < 65536 := g.2.toNat_lt
        have hs2 : (Ak.gaps now n0 (gs.take k) (Ak.run now 0 n0 ⟨f.ps, 0, -1, -1⟩)).ok := gaps_ok _ hs1
        have hl2 : (Ak.gaps now n0 (gs.take k) (Ak.run now 0 n0 ⟨f.ps, 0, -1, -1⟩)).ps.length = f.ps.length := (gaps_len _ _).trans hl1
        refine G.pick (A := sl m 2 _ _ _) (by repeat (first | with_reducible exact Pick.here | with_reducible apply Pick.there)) (G.slice (fun a0 hv hn hc => by omega) (fun gb gT goff gcap2 gpre gpost hv hgpre hgcs hgpost hgle2 => ?_))
        cases hv
        refine G.skip ?_
        refine G.seq ?_
        refine G.block ?_
        refine G.seq ?_
        refine G.region ?_
        refine G.yld (by decide) (Yld.indexAddr Try.runUnderlying31 Try.sizeOf57 rfl rfl (by omega) (by omega)) ?_
        refine G.yld (by decide) (Yld.loadAgg (cs := [vU16 g.1, vU16 g.2]) rfl Try.isAgg57 Try.sizeOf57 (by repeat (first | with_reducible exact Pick.here | with_reducible apply Pick.there)) rfl (aggAt (gpc_at hgpre hg))) ?_
        refine G.opc (by decide) (OpC.alloc (cs := [.int .u16 0, .int .u16 0]) Try.zeroValue57 rfl) fun b13 => ?_
        refine G.op0  (OpC.storeAgg (k := 2) Try.sizeOf57 rfl rfl rfl rfl (by repeat (first | with_reducible exact Pick.here | with_reducible apply Pick.there)) (setWhole rfl) (Nat.le_of_ble_eq_true rfl)) fun _ => ?_
        refine G.done ?_
        refine G.seq ?_
        refine G.region ?_
        refine G.yld (by decide) (Yld.fieldAddr Try_fo57_0 rfl) ?_
        refine G.yld (by decide) (Yld.load rfl Try.isAgg30 (by repeat (first | with_reducible exact Pick.here | with_reducible apply Pick.there)) rfl) ?_
        refine G.yld (by decide) (Yld.conv_u16_i Try.runUnderlying30 Try.runUnderlying3 rfl) ?_
        refine G.yld (by decide) (Yld.assign rfl) ?_
        refine G.done ?_
        refine G.block ?_
        refine G.loopE (X := Nat) (fun j => [(3, ptr b3), (4, ptr b4), (5, ptr b5), (6, ptr b6), (7, ptr b7), (8, vI n0), (9, ptr b9), (10, .func (.func 49) #[] #[ptr b3, ptr b7, ptr b5, ptr b9]), (13, ptr b13), (14, vI (g.1.toNat + j : Int)), (43, .slice (some ⟨gb, goff, none⟩) gs.length capg), (44, vI gs.length), (45, vI k)]) (fun j => [lift (j ≤ g.2.toNat + 1 - g.1.toNat), cel true b3 40 [ptr b], cel true b7 59 [vI (Ak.run now (n0 + g.1.toNat - 1) j (Ak.gaps now n0 (gs.take k) (Ak.run now 0 n0 ⟨f.ps, 0, -1, -1⟩))).bytes, .bool false, .bool (false), vI (Ak.run now (n0 + g.1.toNat - 1) j (Ak.gaps now n0 (gs.take k) (Ak.run now 0 n0 ⟨f.ps, 0, -1, -1⟩))).rtt, .bool false], cel true b5 22 [vU32 now], cel true b9 3 [vI (Ak.run now (n0 + g.1.toNat - 1) j (Ak.gaps now n0 (gs.take k) (Ak.run now 0 n0 ⟨f.ps, 0, -1, -1⟩))).top], cel true b 87 [vU32 f.mark, (.slice a f.ps.length cap), .map (some r)], sl true 1 (.slice a f.ps.length cap) f.ps.length (ptc bs), isPs bs (Ak.run now (n0 + g.1.toNat - 1) j (Ak.gaps now n0 (gs.take k) (Ak.run now 0 n0 ⟨f.ps, 0, -1, -1⟩))).ps, mapA encI r (goneC f.gone), cel true b4 36 (ckv c (.slice (some ⟨gb, goff, none⟩) gs.length capg) nilS nilS nilS nilS), cel true b6 59 [.int .i64 0, .bool false, .bool false, .int .i64 0, .bool false], cel true b13 57 [vU16 g.1, vU16 g.2], cel m gb gT (gpre ++ gpc gs ++ gpost)]) (fun j => g.2.toNat + 1 - g.1.toNat - j) 0 (.cons (t := 3) rfl (.cons (t := 4) rfl (.cons (t := 5) rfl (.cons (t := 6) rfl (.cons (t := 7) rfl (.cons (t := 8) rfl (.cons (t := 9) rfl (.cons (t := 10) rfl (.cons (t := 13) rfl (.as (t := 14) rfl (congrArg vI (by simp)) (.cons (t := 43) rfl (.cons (t := 44) rfl (.cons (t := 45) rfl .nil))))))))))))) (.cons (.lift (Nat.zero_le _)) (by simp only [Ak.run]; exact Ents.of_picks (.cons (by repeat (first | with_reducible exact Pick.here | with_reducible apply Pick.there)) (.cons (by repeat (first | with_reducible exact Pick.here | with_reducible apply Pick.there)) (.cons (by repeat (first | with_reducible exact Pick.here | with_reducible apply Pick.there)) (.cons (by repeat (first | with_reducible exact Pick.here | with_reducible apply Pick.there)) (.cons (by repeat (first | with_reducible exact Pick.here | with_reducible apply Pick.there)) (.cons (by repeat (first | with_reducible exact Pick.here | with_reducible apply Pick.there)) (.cons (by repeat (first | with_reducible exact Pick.here | with_reducible apply Pick.there)) (.cons (by repeat (first | with_reducible exact Pick.here | with_reducible apply Pick.there)) (.cons (by repeat (first | with_reducible exact Pick.here | with_reducible apply Pick.there)) (.cons (by repeat (first | with_reducible exact Pick.here | with_reducible apply Pick.there)) (.cons (by repeat (first | with_reducible exact Pick.here | with_reducible apply Pick.there)) (.cons (by repeat (first | with_reducible exact Pick.here | with_reducible apply Pick.there)) .nil)))))))))))))) fun j => ?_
        refine G.lift fun hj => ?_
        refine G.seq ?_
        refine G.seq ?_
        refine G.region ?_
        refine G.yld (by decide) (Yld.move rfl) ?_
        refine G.yld (by decide) (Yld.fieldAddr Try_fo57_1 rfl) ?_
        refine G.yld (by decide) (Yld.load rfl Try.isAgg30 (by repeat (first | with_reducible exact Pick.here | with_reducible apply Pick.there)) rfl) ?_
        refine G.yld (by decide) (Yld.conv_u16_i Try.runUnderlying30 Try.runUnderlying3 rfl) ?_
        refine G.yld (by decide) (Yld.leq_i rfl rfl) ?_
        refine G.done ?_
        refine G.condP rfl (fun hlj => ?_) (fun hlj => ?_)
        · have hs3 : (Ak.run now (n0 + g.1.toNat - 1) j (Ak.gaps now n0 (gs.take k) (Ak.run now 0 n0 ⟨f.ps, 0, -1, -1⟩))).ok := run_ok _ _ hs2
          have hl3 : (Ak.run now (n0 + g.1.toNat - 1) j (Ak.gaps now n0 (gs.take k) (Ak.run now 0 n0 ⟨f.ps, 0, -1, -1⟩))).ps.length = f.ps.length := (run_len _ _ _).trans hl2
          refine G.skip ?_
          refine G.seq ?_
          refine G.block ?_
          refine G.region ?_
          refine G.yld (by decide) (Yld.move rfl) ?_
          refine G.yld (by decide) (Yld.move rfl) ?_
          refine G.yld (by decide) (Yld.move rfl) ?_
          refine G.yld (by decide) (Yld.add_i rfl rfl (by omega)) ?_
          refine G.yld (by decide) (Yld.sub_i (b := (1 : Int)) rfl rfl (by omega)) ?_
          refine G.opc (by decide) (OpC.callV (caps := [ptr b3, ptr b7, ptr b5, ptr b9]) Try.call49 rfl rfl (congrArg (fun z => vI z :: [ptr b3, ptr b7, ptr b5, ptr b9]) (by omega)) (arrive_spec b b3 b7 b5 b9 _ false false false now f.mark _ _ bs f.ps.length (n0 + g.1.toNat - 1 + j) hs3 hl3 (by omega) hsmall) (.cons (by repeat (first | with_reducible exact Pick.here | with_reducible apply Pick.there)) (.cons (by repeat (first | with_reducible exact Pick.here | with_reducible apply Pick.there)) (.cons (by repeat (first | with_reducible exact Pick.here | with_reducible apply Pick.there)) (.cons (by repeat (first | with_reducible exact Pick.here | with_reducible apply Pick.there)) (.cons (by repeat (first | with_reducible exact Pick.here | with_reducible apply Pick.there)) (.cons (by repeat (first | with_reducible exact Pick.here | with_reducible apply Pick.there)) (.cons (by repeat (first | with_reducible exact Pick.here | with_reducible apply Pick.there)) .nil)))))))) fun _ => ?_
          refine G.star7 ?_
          refine G.done ?_
          refine G.nil ?_
          refine G.x_block (G.x_then ?_)
          refine G.region ?_
          refine G.yld (by decide) (Yld.move rfl) ?_
          refine G.yld (by decide) (Yld.add_i (b := (1 : Int)) rfl rfl (by omega)) ?_
          refine G.yld (by decide) (Yld.assign rfl) ?_
          refine G.done ?_
          refine G.nil ?_
          refine G.x_then ?_
          exact G.againE (j + 1) (by omega) (.cons (t := 3) rfl (.cons (t := 4) rfl (.cons (t := 5) rfl (.cons (t := 6) rfl (.cons (t := 7) rfl (.cons (t := 8) rfl (.cons (t := 9) rfl (.cons (t := 10) rfl (.cons (t := 13) rfl (.as (t := 14) rfl (congrArg vI (by omega)) (.cons (t := 43) rfl (.cons (t := 44) rfl (.cons (t := 45) rfl .nil))))))))))))) (.cons (.lift (by omega)) (by rw [run_succ]; exact Ents.of_picks (.cons (by repeat (first | with_reducible exact Pick.here | with_reducible apply Pick.there)) (.cons (by repeat (first | with_reducible exact Pick.here | with_reducible apply Pick.there)) (.cons (by repeat (first | with_reducible exact Pick.here | with_reducible apply Pick.there)) (.cons (by repeat (first | with_reducible exact Pick.here | with_reducible apply Pick.there)) (.cons (by repeat (first | with_reducible exact Pick.here | with_reducible apply Pick.there)) (.cons (by repeat (first | with_reducible exact Pick.here | with_reducible apply Pick.there)) (.cons (by repeat (first | with_reducible exact Pick.here | with_reducible apply Pick.there)) (.cons (by repeat (first | with_reducible exact Pick.here | with_reducible apply Pick.there)) (.cons (by repeat (first | with_reducible exact Pick.here | with_reducible apply Pick.there)) (.cons (by repeat (first | with_reducible exact Pick.here | with_reducible apply Pick.there)) (.cons (by repeat (first | with_reducible exact Pick.here | with_reducible apply Pick.there)) (.cons (by repeat (first | with_reducible exact Pick.here | with_reducible apply Pick.there)) .nil))))))))))))))
        · have hj2 : j = g.2.toNat + 1 - g.1.toNat := by omega
          subst hj2
          refine G.exit ?_
          refine G.x_exit_then (G.x_exit_then ?_)
          refine G.x_exit_block (G.x_then ?_)
          refine G.unframe (by repeat (first | exact App.nil | apply App.cons)) ?_
          refine G.nil ?_
          refine G.x_block (G.x_then ?_)
          refine G.region ?_
          refine G.yld (by decide) (Yld.add_i (b := (1 : Int)) rfl rfl (by omega)) ?_
          refine G.yld (by decide) (Yld.move rfl) ?_
          refine G.done ?_
          refine G.nil ?_
          refine G.x_then ?_
          exact G.againE (k + 1) (by omega) (.cons (t := 3) rfl (.cons (t := 4) rfl (.cons (t := 5) rfl (.cons (t := 6) rfl (.cons (t := 7) rfl (.cons (t := 8) rfl (.cons (t := 9) rfl (.cons (t := 10) rfl (.cons (t := 43) rfl (.cons (t := 44) rfl (.cons (t := 45) rfl .nil))))))))))) (.cons (.lift (by omega)) (by rw [gaps_succ hg]; exact (.cons (.pick (by repeat (first | with_reducible exact Pick.here | with_reducible apply Pick.there))) (.cons (.pick (by repeat (first | with_reducible exact Pick.here | with_reducible apply Pick.there))) (.cons (.pick (by repeat (first | with_reducible exact Pick.here | with_reducible apply Pick.there))) (.cons (.pick (by repeat (first | with_reducible exact Pick.here | with_reducible apply Pick.there))) (.cons (.pick (by repeat (first | with_reducible exact Pick.here | with_reducible apply Pick.there))) (.cons (.pick (by repeat (first | with_reducible exact Pick.here | with_reducible apply Pick.there))) (.cons (.pick (by repeat (first | with_reducible exact Pick.here | with_reducible apply Pick.there))) (.cons (.pick (by repeat (first | with_reducible exact Pick.here | with_reducible apply Pick.there))) (.cons (.pick (by repeat (first | with_reducible exact Pick.here | with_reducible apply Pick.there))) (.cons (.pick (by repeat (first | with_reducible exact Pick.here | with_reducible apply Pick.there))) (.cons (.imp (.pick (A := cel _ gb _ _) (by repeat (first | with_reducible exact Pick.here | with_reducible apply Pick.there))) fun _ h => .inr ⟨gb, gT, goff, _, gpre, gpost, rfl, hgpre, hgcs, hgpost, hgle2, h⟩) .nil)))))))))))))
      · have hk2 : k = gs.length := by omega
        subst hk2
        have hs2 : (Ak.gaps now n0 (gs.take gs.length) (Ak.run now 0 n0 ⟨f.ps, 0, -1, -1⟩)).ok := gaps_ok _ hs1
        have hl2 : (Ak.gaps now n0 (gs.take gs.length) (Ak.run now 0 n0 ⟨f.ps, 0, -1, -1⟩)).ps.length = f.ps.length := (gaps_len _ _).trans hl1
        obtain ⟨s, hse⟩ : ∃ s, Ak.gaps now n0 (gs.take gs.length) (Ak.run now 0 n0 ⟨f.ps, 0, -1, -1⟩) = s := ⟨_, rfl⟩
        rw [hse] at hs2 hl2 ⊢
        have htp := hs2.tp
        obtain ⟨t, ht⟩ : ∃ t, (if (0 : Int) > s.top then 0 else s.top).toNat = t := ⟨_, rfl⟩
        have ht2 : (if (0 : Int) > s.top then 0 else s.top) = (t : Int) := by rw [← ht]; split <;> omega
        have ht3 : t ≤ f.ps.length := by rw [← ht]; split <;> omega
        refine G.exit ?_
        refine G.x_exit_then (G.x_exit_then ?_)
        refine G.x_exit_block (G.x_then ?_)
        refine G.unframe (by repeat (first | exact App.nil | apply App.cons)) ?_
        refine G.seq ?_
        refine G.seq ?_
        refine G.draw Try_mixed (.still 0 (.still 1 (.still 2 (.still 3 (.still 4 (.still 5 (.still 6 (.still 7 (.still 8 (.done)))))))))) (by kernel_rfl) (.cons (A := cel _ b3 _ _) (by repeat (first | with_reducible exact Pick.here | with_reducible apply Pick.there)) (.cons (A := cel _ b _ _) (by repeat (first | with_reducible exact Pick.here | with_reducible apply Pick.there)) (.cons (A := cel _ b9 _ _) (by repeat (first | with_reducible exact Pick.here | with_reducible apply Pick.there)) .nil))) ?_
        refine GO.yld (i := 0) rfl (by decide) (Yld.load rfl Try.isAgg40 (by repeat (first | with_reducible exact Pick.here | with_reducible apply Pick.there)) rfl) ?_
        refine GO.yld (i := 1) rfl (by decide) (Yld.nilCheck rfl) ?_
        refine GO.yld (i := 2) rfl (by decide) (Yld.fieldAddr Try_fo87_1 rfl) ?_
        refine GO.yld (i := 3) rfl (by decide) (Yld.load rfl Try.isAgg85 (by repeat (first | with_reducible exact Pick.here | with_reducible apply Pick.there)) rfl) ?_
        refine GO.yld (i := 4) rfl (by decide) (Yld.load rfl Try.isAgg3 (by repeat (first | with_reducible exact Pick.here | with_reducible apply Pick.there)) rfl) ?_
        refine GO.yld (i := 5) rfl (by decide) (Yld.max_i (b := (0 : Int)) rfl rfl) ?_
        refine GO.yld (i := 6) rfl (by decide) (Yld.sliceTo Try.underlying85 Try.sizeOf89 rfl rfl (by rw [ht2]; omega) (by rw [ht2]; omega)) ?_
        refine GO.yld (i := 7) rfl (by decide) (Yld.len_slice Try.runUnderlying85 rfl) ?_
        refine GO.yld (i := 8) rfl (by decide) (Yld.move rfl) ?_
        refine GO.done ?_
        refine G.block ?_
        refine G.loopE (X := Nat) (fun k => [(3, ptr b3), (4, ptr b4), (5, ptr b5), (6, ptr b6), (7, ptr b7), (8, vI n0), (9, ptr b9), (72, .slice a t cap), (73, vI t), (74, vI k)]) (fun k => [lift (k ≤ t), cel true b3 40 [ptr b], cel true b7 59 [vI (s).bytes, .bool false, .bool ((s.ps.take k).any lostP), vI (s).rtt, .bool false], cel true b5 22 [vU32 now], cel true b9 3 [vI (s).top], cel true b 87 [vU32 f.mark, (.slice a f.ps.length cap), .map (some r)], sl true 1 (.slice a f.ps.length cap) f.ps.length (ptc bs), isPs bs (curAt missP k s.ps), mapA encI r (goneC f.gone), cel true b4 36 (ckv c (.slice ag gs.length capg) nilS nilS nilS nilS), cel true b6 59 [.int .i64 0, .bool false, .bool false, .int .i64 0, .bool false], sl m 2 (.slice ag gs.length capg) gs.length (gpc gs)]) (fun k => t - k) 0 (.cons (t := 3) rfl (.cons (t := 4) rfl (.cons (t := 5) rfl (.cons (t := 6) rfl (.cons (t := 7) rfl (.cons (t := 8) rfl (.cons (t := 9) rfl (.as (t := 72) rfl (by rw [ht]) (.as (t := 73) rfl (by rw [ht]) (.cons (t := 74) rfl .nil)))))))))) (.cons (.lift (Nat.zero_le _)) (by simp only [curAt_zero, List.take_zero, List.any_nil]; exact Ents.of_picks (.cons (by repeat (first | with_reducible exact Pick.here | with_reducible apply Pick.there)) (.cons (by repeat (first | with_reducible exact Pick.here | with_reducible apply Pick.there)) (.cons (by repeat (first | with_reducible exact Pick.here | with_reducible apply Pick.there)) (.cons (by repeat (first | with_reducible exact Pick.here | with_reducible apply Pick.there)) (.cons (by repeat (first | with_reducible exact Pick.here | with_reducible apply Pick.there)) (.cons (by repeat (first | with_reducible exact Pick.here | with_reducible apply Pick.there)) (.cons (by repeat (first | with_reducible exact Pick.here | with_reducible apply Pick.there)) (.cons (by repeat (first | with_reducible exact Pick.here | with_reducible apply Pick.there)) (.cons (by repeat (first | with_reducible exact Pick.here | with_reducible apply Pick.there)) (.cons (by repeat (first | with_reducible exact Pick.here | with_reducible apply Pick.there)) (.cons (by repeat (first | with_reducible exact Pick.here | with_reducible apply Pick.there)) .nil))))))))))))) fun k => ?_
        refine G.lift fun hk => ?_
        refine G.seq ?_
        refine G.region ?_
        refine G.yld (by decide) (Yld.lss_i rfl rfl) ?_
        refine G.done ?_
        refine G.seq ?_
        refine G.condP rfl (fun hlt => ?_) (fun hlt => ?_)
        · refine G.fact (A := isPs bs _) (by repeat (first | with_reducible exact Pick.here | with_reducible apply Pick.there)) (fun _ h => isPs_len h) fun hlb => ?_
          rw [curAt_length] at hlb
          obtain ⟨bk, hbk⟩ : ∃ b, bs[k]? = some b := ⟨bs[k]'(by omega), by simp⟩
          obtain ⟨p, hp⟩ : ∃ p, s.ps[k]? = some p := ⟨s.ps[k]'(by omega), by simp⟩
          have hmi := hs2.miss p (List.mem_of_getElem? hp)
          refine G.pick (A := sl true 1 _ _ _) (by repeat (first | with_reducible exact Pick.here | with_reducible apply Pick.there)) (G.slice (fun a0 hv hn hc => by omega) (fun bb T off cap2 pre post hv hpre hcs hpost hle2 => ?_))
          cases hv
          refine G.skip ?_
          refine G.seq ?_
          refine G.block ?_
          refine G.seq ?_
          refine G.region ?_
          refine G.yld (by decide) (Yld.indexAddr Try.runUnderlying85 Try.sizeOf89 rfl rfl (by omega) (by omega)) ?_
          refine G.yld (by decide) (Yld.load rfl Try.isAgg89 (by repeat (first | with_reducible exact Pick.here | with_reducible apply Pick.there)) (ptc_at hpre hbk)) ?_
          refine G.yld (by decide) (Yld.assign rfl) ?_
          refine G.done ?_
          refine G.seq ?_
          refine G.seq ?_
          refine G.conv (A := isPs bs _) (by repeat (first | with_reducible exact Pick.here | with_reducible apply Pick.there)) (isPs_split hbk (curAt_get hp)) ?_
          refine G.star3 ?_
          refine G.ex fun bv => G.star ?_
          refine G.region ?_
          refine G.yld (by decide) (Yld.move rfl) ?_
          refine G.yld (by decide) (Yld.nilCheck rfl) ?_
          refine G.yld (by decide) (Yld.fieldAddr Try_fo93_6 rfl) ?_
          refine G.yld (by decide) (Yld.load rfl Try.isAgg91 (by repeat (first | with_reducible exact Pick.here | with_reducible apply Pick.there)) rfl) ?_
          refine G.yld (by decide) (Yld.neq_i (b := (0 : Int)) rfl rfl) ?_
          refine G.done ?_
          refine G.condP rfl (fun hhow => ?_) (fun hhow => ?_)
          · refine G.exit ?_
            refine G.x_exit_block (G.x_then ?_)
            refine G.region ?_
            refine G.yld (by decide) (Yld.add_i (b := (1 : Int)) rfl rfl (by omega)) ?_
            refine G.yld (by decide) (Yld.move rfl) ?_
            refine G.done ?_
            refine G.nil ?_
            refine G.x_then ?_
            exact G.againE (k + 1) (by omega) (.cons (t := 3) rfl (.cons (t := 4) rfl (.cons (t := 5) rfl (.cons (t := 6) rfl (.cons (t := 7) rfl (.cons (t := 8) rfl (.cons (t := 9) rfl (.cons (t := 72) rfl (.cons (t := 73) rfl (.cons (t := 74) rfl .nil)))))))))) (.cons (.lift (by omega)) (.cons (.pick (by repeat (first | with_reducible exact Pick.here | with_reducible apply Pick.there))) (.cons (.imp (.pick (A := cel _ b7 _ _) (by repeat (first | with_reducible exact Pick.here | with_reducible apply Pick.there))) fun _ h => by rw [any_succ hp]; simpa [lostP, hhow] using h) (.cons (.pick (by repeat (first | with_reducible exact Pick.here | with_reducible apply Pick.there))) (.cons (.pick (by repeat (first | with_reducible exact Pick.here | with_reducible apply Pick.there))) (.cons (.pick (by repeat (first | with_reducible exact Pick.here | with_reducible apply Pick.there))) (.cons (.imp (.pick (A := cel _ bb _ _) (by repeat (first | with_reducible exact Pick.here | with_reducible apply Pick.there))) fun _ h => .inr ⟨bb, T, off, _, pre, post, rfl, hpre, hcs, hpost, hle2, h⟩) (.cons (entPs hbk (p' := p) (entP (.pick (A := sl false _ bv _ _) (by repeat (first | with_reducible exact Pick.here | with_reducible apply Pick.there))) (.pick (A := cel _ bk _ _) (by repeat (first | with_reducible exact Pick.here | with_reducible apply Pick.there))) (by rfl)) (.pick (A := isPs (bs.take k) _) (by repeat (first | with_reducible exact Pick.here | with_reducible apply Pick.there))) (.pick (A := isPs (bs.drop (k + 1)) _) (by repeat (first | with_reducible exact Pick.here | with_reducible apply Pick.there))) (by rw [← curAt_set hp]; simp [missP, hhow]) (by rw [curAt_length]; omega)) (.cons (.pick (by repeat (first | with_reducible exact Pick.here | with_reducible apply Pick.there))) (.cons (.pick (by repeat (first | with_reducible exact Pick.here | with_reducible apply Pick.there))) (.cons (.pick (by repeat (first | with_reducible exact Pick.here | with_reducible apply Pick.there))) (.cons (.pick (by repeat (first | with_reducible exact Pick.here | with_reducible apply Pick.there))) .nil))))))))))))
          · have hhow0 : p.how = 0 := by omega
            refine G.skip ?_
            refine G.seq ?_
            refine G.region ?_
            refine G.yld (by decide) (Yld.move rfl) ?_
            refine G.yld (by decide) (Yld.nilCheck rfl) ?_
            refine G.yld (by decide) (Yld.fieldAddr Try_fo93_5 rfl) ?_
            refine G.yld (by decide) (Yld.load rfl Try.isAgg3 (by repeat (first | with_reducible exact Pick.here | with_reducible apply Pick.there)) rfl) ?_
            refine G.yld (by decide) (Yld.add_i (b := (1 : Int)) rfl rfl (by omega)) ?_
            refine G.yld (by decide) (Yld.nilCheck rfl) ?_
            refine G.yld (by decide) (Yld.fieldAddr Try_fo93_5 rfl) ?_
            refine G.op0  (OpC.store Try.sizeOf3 rfl rfl rfl (by repeat (first | with_reducible exact Pick.here | with_reducible apply Pick.there)) rfl (Nat.le_of_ble_eq_true rfl)) fun _ => ?_
            refine G.done ?_
            refine G.seq ?_
            refine G.region ?_
            refine G.yld (by decide) (Yld.move rfl) ?_
            refine G.yld (by decide) (Yld.nilCheck rfl) ?_
            refine G.yld (by decide) (Yld.fieldAddr Try_fo93_5 rfl) ?_
            refine G.yld (by decide) (Yld.load rfl Try.isAgg3 (by repeat (first | with_reducible exact Pick.here | with_reducible apply Pick.there)) rfl) ?_
            refine G.yld (by decide) (Yld.eql_i (b := (3 : Int)) rfl rfl) ?_
            refine G.done ?_
            refine G.condP rfl (fun hm3 => ?_) (fun hm3 => ?_)
            · refine G.seq ?_
              refine G.region ?_
              refine G.yld (by decide) (Yld.move rfl) ?_
              refine G.yld (by decide) (Yld.nilCheck rfl) ?_
              refine G.yld (by decide) (Yld.fieldAddr Try_fo93_6 rfl) ?_
              refine G.op0  (OpC.store Try.sizeOf91 rfl rfl rfl (by repeat (first | with_reducible exact Pick.here | with_reducible apply Pick.there)) rfl (Nat.le_of_ble_eq_true rfl)) fun _ => ?_
              refine G.done ?_
              refine G.region ?_
              refine G.yld (by decide) (Yld.fieldAddr Try_fo59_2 rfl) ?_
              refine G.op0  (OpC.storeS (.succ (.succ .zero)) Try.sizeOf4 rfl rfl rfl (by repeat (first | with_reducible exact Pick.here | with_reducible apply Pick.there))) fun _ => ?_
              refine G.done ?_
              refine G.nil ?_
              refine G.x_block (G.x_then ?_)
              refine G.region ?_
              refine G.yld (by decide) (Yld.add_i (b := (1 : Int)) rfl rfl (by omega)) ?_
              refine G.yld (by decide) (Yld.move rfl) ?_
              refine G.done ?_
              refine G.nil ?_
              refine G.x_then ?_
              exact G.againE (k + 1) (by omega) (.cons (t := 3) rfl (.cons (t := 4) rfl (.cons (t := 5) rfl (.cons (t := 6) rfl (.cons (t := 7) rfl (.cons (t := 8) rfl (.cons (t := 9) rfl (.cons (t := 72) rfl (.cons (t := 73) rfl (.cons (t := 74) rfl .nil)))))))))) (.cons (.lift (by omega)) (.cons (.pick (by repeat (first | with_reducible exact Pick.here | with_reducible apply Pick.there))) (.cons (.imp (.pick (A := cel _ b7 _ _) (by repeat (first | with_reducible exact Pick.here | with_reducible apply Pick.there))) fun _ h => by rw [any_succ hp]; simpa [lostP, hhow0, hm3] using h) (.cons (.pick (by repeat (first | with_reducible exact Pick.here | with_reducible apply Pick.there))) (.cons (.pick (by repeat (first | with_reducible exact Pick.here | with_reducible apply Pick.there))) (.cons (.pick (by repeat (first | with_reducible exact Pick.here | with_reducible apply Pick.there))) (.cons (.imp (.pick (A := cel _ bb _ _) (by repeat (first | with_reducible exact Pick.here | with_reducible apply Pick.there))) fun _ h => .inr ⟨bb, T, off, _, pre, post, rfl, hpre, hcs, hpost, hle2, h⟩) (.cons (entPs hbk (p' := { p with missed := p.missed + 1, how := 1 }) (entP (.pick (A := sl false _ bv _ _) (by repeat (first | with_reducible exact Pick.here | with_reducible apply Pick.there))) (.pick (A := cel _ bk _ _) (by repeat (first | with_reducible exact Pick.here | with_reducible apply Pick.there))) (by rfl)) (.pick (A := isPs (bs.take k) _) (by repeat (first | with_reducible exact Pick.here | with_reducible apply Pick.there))) (.pick (A := isPs (bs.drop (k + 1)) _) (by repeat (first | with_reducible exact Pick.here | with_reducible apply Pick.there))) (by rw [← curAt_set hp]; simp [missP, hhow0, hm3]) (by rw [curAt_length]; omega)) (.cons (.pick (by repeat (first | with_reducible exact Pick.here | with_reducible apply Pick.there))) (.cons (.pick (by repeat (first | with_reducible exact Pick.here | with_reducible apply Pick.there))) (.cons (.pick (by repeat (first | with_reducible exact Pick.here | with_reducible apply Pick.there))) (.cons (.pick (by repeat (first | with_reducible exact Pick.here | with_reducible apply Pick.there))) .nil))))))))))))
            · refine G.skip ?_
              refine G.nil ?_
              refine G.x_block (G.x_then ?_)
              refine G.region ?_
              refine G.yld (by decide) (Yld.add_i (b := (1 : Int)) rfl rfl (by omega)) ?_
              refine G.yld (by decide) (Yld.move rfl) ?_
              refine G.done ?_
              refine G.nil ?_
              refine G.x_then ?_
              exact G.againE (k + 1) (by omega) (.cons (t := 3) rfl (.cons (t := 4) rfl (.cons (t := 5) rfl (.cons (t := 6) rfl (.cons (t := 7) rfl (.cons (t := 8) rfl (.cons (t := 9) rfl (.cons (t := 72) rfl (.cons (t := 73) rfl (.cons (t := 74) rfl .nil)))))))))) (.cons (.lift (by omega)) (.cons (.pick (by repeat (first | with_reducible exact Pick.here | with_reducible apply Pick.there))) (.cons (.imp (.pick (A := cel _ b7 _ _) (by repeat (first | with_reducible exact Pick.here | with_reducible apply Pick.there))) fun _ h => by rw [any_succ hp]; simpa [lostP, hhow0, hm3] using h) (.cons (.pick (by repeat (first | with_reducible exact Pick.here | with_reducible apply Pick.there))) (.cons (.pick (by repeat (first | with_reducible exact Pick.here | with_reducible apply Pick.there))) (.cons (.pick (by repeat (first | with_reducible exact Pick.here | with_reducible apply Pick.there))) (.cons (.imp (.pick (A := cel _ bb _ _) (by repeat (first | with_reducible exact Pick.here | with_reducible apply Pick.there))) fun _ h => .inr ⟨bb, T, off, _, pre, post, rfl, hpre, hcs, hpost, hle2, h⟩) (.cons (entPs hbk (p' := { p with missed := p.missed + 1 }) (entP (.pick (A := sl false _ bv _ _) (by repeat (first | with_reducible exact Pick.here | with_reducible apply Pick.there))) (.pick (A := cel _ bk _ _) (by repeat (first | with_reducible exact Pick.here | with_reducible apply Pick.there))) (by rfl)) (.pick (A := isPs (bs.take k) _) (by repeat (first | with_reducible exact Pick.here | with_reducible apply Pick.there))) (.pick (A := isPs (bs.drop (k + 1)) _) (by repeat (first | with_reducible exact Pick.here | with_reducible apply Pick.there))) (by rw [← curAt_set hp]; simp [missP, hhow0, hm3]) (by rw [curAt_length]; omega)) (.cons (.pick (by repeat (first | with_reducible exact Pick.here | with_reducible apply Pick.there))) (.cons (.pick (by repeat (first | with_reducible exact Pick.here | with_reducible apply Pick.there))) (.cons (.pick (by repeat (first | with_reducible exact Pick.here | with_reducible apply Pick.there))) (.cons (.pick (by repeat (first | with_reducible exact Pick.here | with_reducible apply Pick.there))) .nil))))))))))))
        · have hk2 : k = t := by omega
          subst hk2
          refine G.exit ?_
          refine G.x_exit_then (G.x_exit_then ?_)
          refine G.x_exit_block (G.x_then ?_)
          refine G.unframe (by repeat (first | exact App.nil | apply App.cons)) ?_
          refine G.seq ?_
          refine G.region ?_
          refine G.yld (by decide) (Yld.move rfl) ?_
          refine G.yld (by decide) (Yld.gtr_i (b := (0 : Int)) rfl rfl) ?_
          refine G.yld (by decide) (Yld.fieldAddr Try_fo59_1 rfl) ?_
          refine G.op0  (OpC.storeS (.succ .zero) Try.sizeOf4 rfl rfl rfl (by repeat (first | with_reducible exact Pick.here | with_reducible apply Pick.there))) fun _ => ?_
          refine G.done ?_
          refine G.seq ?_
          refine G.region ?_
          refine G.yld (by decide) (Yld.load rfl Try.isAgg40 (by repeat (first | with_reducible exact Pick.here | with_reducible apply Pick.there)) rfl) ?_
          refine G.yld (by decide) (Yld.fieldAddr Try_fo36_5 rfl) ?_
          refine G.yld (by decide) (Yld.load rfl Try.isAgg22 (by repeat (first | with_reducible exact Pick.here | with_reducible apply Pick.there)) rfl) ?_
          refine G.yld (by decide) (Yld.nilCheck rfl) ?_
          refine G.yld (by decide) (Yld.fieldAddr Try_fo87_0 rfl) ?_
          refine G.op0  (OpC.store Try.sizeOf22 rfl rfl rfl (by repeat (first | with_reducible exact Pick.here | with_reducible apply Pick.there)) rfl (Nat.le_of_ble_eq_true rfl)) fun _ => ?_
          refine G.done ?_
          refine G.seq ?_
          refine G.conv (A := sl true 1 (.slice a f.ps.length cap) _ _) (by repeat (first | with_reducible exact Pick.here | with_reducible apply Pick.there)) (A' := sl true 1 (subS a ((n0 : Int)).toNat f.ps.length cap 1) (f.ps.length - n0) ((ptc bs).drop (n0 * 1))) (fun r h => sl_from (l := n0) hnl r h) ?_
          refine G.conv (A := isPs bs _) (by repeat (first | with_reducible exact Pick.here | with_reducible apply Pick.there)) (isPs_drop (k := n0)) ?_
          refine G.draw Try_mixed (.still 0 (.still 1 (.still 2 (.still 3 (.still 4 (.still 5 (.still 6 (.loud 7 true (.still 8 (.still 9 (.loud 10 false (.done)))))))))))) (by kernel_rfl) (.cons (A := cel _ b3 _ _) (by repeat (first | with_reducible exact Pick.here | with_reducible apply Pick.there)) (.cons (A := cel _ b _ _) (by repeat (first | with_reducible exact Pick.here | with_reducible apply Pick.there)) .nil)) ?_
          refine GO.yld (i := 0) rfl (by decide) (Yld.load rfl Try.isAgg40 (by repeat (first | with_reducible exact Pick.here | with_reducible apply Pick.there)) rfl) ?_
          refine GO.yld (i := 1) rfl (by decide) (Yld.load rfl Try.isAgg40 (by repeat (first | with_reducible exact Pick.here | with_reducible apply Pick.there)) rfl) ?_
          refine GO.yld (i := 2) rfl (by decide) (Yld.nilCheck rfl) ?_
          refine GO.yld (i := 3) rfl (by decide) (Yld.fieldAddr Try_fo87_1 rfl) ?_
          refine GO.yld (i := 4) rfl (by decide) (Yld.load rfl Try.isAgg85 (by repeat (first | with_reducible exact Pick.here | with_reducible apply Pick.there)) rfl) ?_
          refine GO.yld (i := 5) rfl (by decide) (Yld.move rfl) ?_
          refine GO.yld (i := 6) rfl (by decide) (Yld.sliceFrom Try.underlying85 Try.sizeOf89 rfl rfl (by omega) (by omega)) ?_
          refine GO.opc (i := 7) rfl (by decide) (OpC.call Try.call50 rfl (cloneP (m := true) (n := f.ps.length - n0) (cs := (ptc bs).drop (n0 * 1)) _ (by rw [ptc_drop]; exact ptc_cell _) (room_of _ _ (by decide) (by omega))) (.cons (by repeat (first | with_reducible exact Pick.here | with_reducible apply Pick.there)) .nil)) (fun _ => (.cons (A := cel _ b3 _ _) (by repeat (first | with_reducible exact Pick.here | with_reducible apply Pick.there)) (.cons (A := cel _ b _ _) (by repeat (first | with_reducible exact Pick.here | with_reducible apply Pick.there)) .nil))) fun va => ?_
          refine GO.star ?_
          refine GO.fact (A := sl true _ va _ _) (by repeat (first | with_reducible exact Pick.here | with_reducible apply Pick.there)) sl_cell fun hva => ?_
          refine GO.yld (i := 8) rfl (by decide) (Yld.nilCheck rfl) ?_
          refine GO.yld (i := 9) rfl (by decide) (Yld.fieldAddr Try_fo87_1 rfl) ?_
          refine GO.x ?_
          refine GX.op0 (i := 10) rfl  (OpC.store Try.sizeOf85 rfl rfl hva (by repeat (first | with_reducible exact Pick.here | with_reducible apply Pick.there)) rfl (Nat.le_of_ble_eq_true rfl)) fun _ => ?_
          refine GX.done ?_
          refine G.seq ?_
          refine G.region ?_
          refine G.yld (by decide) (Yld.loadAgg (cs := [_, _, _, _, _]) rfl Try.isAgg59 Try.sizeOf59 (by repeat (first | with_reducible exact Pick.here | with_reducible apply Pick.there)) rfl (aggAt rfl)) ?_
          refine G.op0  (OpC.storeAgg (k := 5) Try.sizeOf59 rfl rfl rfl rfl (by repeat (first | with_reducible exact Pick.here | with_reducible apply Pick.there)) (setWhole rfl) (Nat.le_of_ble_eq_true rfl)) fun _ => ?_
          refine G.done ?_
          refine G.ret ?_
          have hA : f.ack c.kind c.tsn gs now = (⟨s.bytes, decide (0 < n0), (s.ps.take k).any lostP, s.rtt, false⟩, { f with mark := c.tsn, ps := (curAt missP k s.ps).drop n0 }) := by
            rw [List.take_length] at hse
            simp only [Fm.ack, if_neg hbn, hn0, hse, ht]
          rw [hA]
          refine G.ret1 (.inr rfl) Try.results17 (.agg (cs := [_, _, _, _, _]) rfl Try.isAgg59 Try.sizeOf59 (by repeat (first | with_reducible exact Pick.here | with_reducible apply Pick.there)) rfl (aggAt rfl)) ?_
          exact ⟨_, (.star (.lift (by simp [Acked.val])) (.star (entF (f := { f with mark := c.tsn, ps := (curAt missP k s.ps).drop n0 }) (bs := bs.drop n0) (v := va) (r := r) (.imp (.pick (A := cel _ b _ _) (by repeat (first | with_reducible exact Pick.here | with_reducible apply Pick.there))) fun _ h => by exact h) (.imp (.pick (A := sl true 1 va _ _) (by repeat (first | with_reducible exact Pick.here | with_reducible apply Pick.there))) fun _ h => by rw [ptc_drop] at h; exact h) (by simp [curAt_length, hl2]) (.pick (A := isPs (bs.drop n0) _) (by repeat (first | with_reducible exact Pick.here | with_reducible apply Pick.there))) (.pick (by repeat (first | with_reducible exact Pick.here | with_reducible apply Pick.there)))) (.pick (A := sl m 2 _ _ _) (by repeat (first | with_reducible exact Pick.here | with_reducible apply Pick.there)))))⟩
end Go.Fl
