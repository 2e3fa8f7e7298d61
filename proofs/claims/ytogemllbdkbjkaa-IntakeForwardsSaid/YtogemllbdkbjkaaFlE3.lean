/- Contracts, printed by a program of mine and proved by Lean. -/
import Derived.Test.YtogemllbdkbjkaaFlInG
import Derived.Test.YtogemllbdkbjkaaFlE1
import Derived.Test.YtogemllbdkbjkaaFlA2
set_option linter.unusedVariables false
set_option linter.unusedSimpArgs false
namespace Go.Fl
open Go Go.Sl Go.Proofs
set_option maxRecDepth 10000
set_option linter.unusedVariables false
theorem sGaps_spec (b : Nat) (s : Sp) (hsmall : s.rows.length < 1000000) : Sl.Spec Try.prog 51 [ptr b, vI 32].toArray [isS b s] (fun v => ex fun (x : Option Addr × Nat) => star (lift (v = .slice x.1 (min 32 s.rows.length) x.2)) (star (isS b s) (sl true 2 (.slice x.1 (min 32 s.rows.length) x.2) (min 32 s.rows.length) (gpc (gapK s.rows (min 32 s.rows.length)))))) := by
  refine Sl.Spec.of_body (vs := [ptr b, vI 32]) Try.func51 Try.ntmps51 (Nat.le_of_ble_eq_true rfl) rfl fun w0 F => ?_
  refine G.openS fun a c => ?_
  refine G.pick (A := sl true 2 (.slice a _ _) _ _) (by repeat (first | with_reducible exact Pick.here | with_reducible apply Pick.there)) (G.slv fun a2 c2 hv hl hc => ?_)
  cases hv
  obtain ⟨t, ht, htk⟩ : ∃ t : Nat, t ≤ s.rows.length ∧ t = min 32 s.rows.length := ⟨_, by omega, rfl⟩
  refine G.seq ?_
  refine G.region ?_
  refine G.yld (by decide) (Yld.assign rfl) ?_
  refine G.done ?_
  refine G.seq ?_
  refine G.region ?_
  refine G.yld (by decide) (Yld.assign rfl) ?_
  refine G.done ?_
  refine G.seq ?_
  refine G.seq ?_
  refine G.draw Try_mixed (.still 0 (.still 1 (.still 2 (.still 3 (.still 4 (.still 5 (.still 6 (.still 7 (.still 8 (.still 9 (.still 10 (.still 11 (.still 12 (.still 13 (.still 14 (.done)))))))))))))))) (by kernel_rfl) (Picks.refl _) ?_
  refine GO.yld (i := 0) rfl (by decide) (Yld.move rfl) ?_
  refine GO.yld (i := 1) rfl (by decide) (Yld.nilCheck rfl) ?_
  refine GO.yld (i := 2) rfl (by decide) (Yld.fieldAddr Try_fo111_1 rfl) ?_
  refine GO.yld (i := 3) rfl (by decide) (Yld.load rfl Try.isAgg109 (by repeat (first | with_reducible exact Pick.here | with_reducible apply Pick.there)) rfl) ?_
  refine GO.yld (i := 4) rfl (by decide) (Yld.move rfl) ?_
  refine GO.yld (i := 5) rfl (by decide) (Yld.move rfl) ?_
  refine GO.yld (i := 6) rfl (by decide) (Yld.nilCheck rfl) ?_
  refine GO.yld (i := 7) rfl (by decide) (Yld.fieldAddr Try_fo111_1 rfl) ?_
  refine GO.yld (i := 8) rfl (by decide) (Yld.load rfl Try.isAgg109 (by repeat (first | with_reducible exact Pick.here | with_reducible apply Pick.there)) rfl) ?_
  refine GO.yld (i := 9) rfl (by decide) (Yld.len_slice Try.runUnderlying109 rfl) ?_
  refine GO.yld (i := 10) rfl (by decide) (Yld.min_i rfl rfl) ?_
  refine GO.yld (i := 11) rfl (by decide) (Yld.max_i (a := (0 : Int)) rfl rfl) ?_
  refine GO.yld (i := 12) rfl (by decide) (Yld.sliceTo Try.underlying109 Try.sizeOf121 rfl rfl (by omega) (by omega)) ?_
  refine GO.yld (i := 13) rfl (by decide) (Yld.len_slice Try.runUnderlying109 rfl) ?_
  refine GO.yld (i := 14) rfl (by decide) (Yld.move rfl) ?_
  refine GO.done ?_
  refine G.block ?_
  refine G.loopE (X := Nat × Option Addr × Nat) (fun x => [(20, .slice a t c), (21, vI t), (22, vI x.1), (5, .slice x.2.1 (gapK s.rows x.1).length x.2.2)]) (fun x => [lift (x.1 ≤ t), cel true b 111 [vU32 s.mark, .slice a s.rows.length c], sl true 2 (.slice a s.rows.length c) s.rows.length (rowc s.rows), sl true 2 (.slice x.2.1 (gapK s.rows x.1).length x.2.2) (gapK s.rows x.1).length (gpc (gapK s.rows x.1))]) (fun x => t - x.1) (0, none, 0) (.as (t := 20) rfl (by subst htk; congr 1; omega) (.as (t := 21) rfl (by subst htk; congr 1; omega) (.cons (t := 22) rfl (.cons (t := 5) rfl .nil)))) (.cons (.lift (Nat.zero_le _)) (.cons (.pick (A := cel true b 111 _) (by repeat (first | with_reducible exact Pick.here | with_reducible apply Pick.there))) (.cons (.pick (A := sl true 2 (.slice a _ _) _ _) (by repeat (first | with_reducible exact Pick.here | with_reducible apply Pick.there))) (.cons (.imp .emp fun _ _ => sl_nil) .nil)))) fun ⟨i, aw, cw⟩ => ?_
  refine G.lift fun hi => ?_
  simp only at hi
  refine G.seq ?_
  refine G.region ?_
  refine G.yld (by decide) (Yld.lss_i rfl rfl) ?_
  refine G.done ?_
  refine G.seq ?_
  refine G.condP rfl (fun hlt => ?_) (fun hlt => ?_)
  · have hi2 : i < t := by simpa using hlt
    obtain ⟨r, hr⟩ : ∃ r, s.rows[i]? = some r := ⟨_, rAt_get (by omega)⟩
    have hk := gapK_succ hr
    refine G.skip ?_
    refine G.seq ?_
    refine G.block ?_
    refine G.seq ?_
    refine G.region ?_
    refine G.yld (by decide) (Yld.indexE2 Try.runUnderlying109 Try.sizeOf121 rfl rfl (show Pick _ (sl true 2 (.slice a _ _) _ _) _ from by repeat (first | with_reducible exact Pick.here | with_reducible apply Pick.there)) (by decide) (by omega) (by simp only; omega) ht) ?_
    refine G.yld (by decide) (Yld.loadAggE (us := (rowv r)) Try.isAgg121 Try.sizeOf121 rfl (show Pick _ (sl true 2 (.slice a _ _) _ _) _ from by repeat (first | with_reducible exact Pick.here | with_reducible apply Pick.there)) rfl (by decide) (by simp only [Int.toNat_natCast]; exact rowc_at hr)) ?_
    refine G.opc (by decide) (OpC.alloc (cs := [.int .u32 0, .int .u32 0]) Try.zeroValue121 rfl) fun b7 => ?_
    refine G.op0  (OpC.storeAgg (k := 2) Try.sizeOf121 rfl rfl rfl rfl (by repeat (first | with_reducible exact Pick.here | with_reducible apply Pick.there)) (setWhole rfl) (Nat.le_of_ble_eq_true rfl)) fun _ => ?_
    refine G.done ?_
    refine G.region ?_
    refine G.yld (by decide) (Yld.move rfl) ?_
    refine G.yld (by decide) (Yld.fieldAddr Try_fo121_0 rfl) ?_
    refine G.yld (by decide) (Yld.load rfl Try.isAgg22 (by repeat (first | with_reducible exact Pick.here | with_reducible apply Pick.there)) rfl) ?_
    refine G.yld (by decide) (Yld.conv_u32_u16 Try.runUnderlying22 Try.runUnderlying30 rfl) ?_
    refine G.yld (by decide) (Yld.fieldAddr Try_fo121_1 rfl) ?_
    refine G.yld (by decide) (Yld.load rfl Try.isAgg22 (by repeat (first | with_reducible exact Pick.here | with_reducible apply Pick.there)) rfl) ?_
    refine G.yld (by decide) (Yld.conv_u32_u16 Try.runUnderlying22 Try.runUnderlying30 rfl) ?_
    refine G.yld (by decide) (Yld.buildS (cs := [_, _]) Try_z57 Try_pl57 rfl rfl (.cons rfl rfl (Nat.le_of_ble_eq_true rfl) (.cons rfl rfl (Nat.le_of_ble_eq_true rfl) .nil)) rfl) ?_
    refine G.opc (by decide) (OpC.buildOne (cs := [_, _]) Try.runUnderlying31 Try.sizeOf57 Try.zeroValue57 rfl rfl rfl rfl (by decide)) fun bs => ?_
    refine G.fold (A := sl true 2 (.slice (some ⟨bs, 0, none⟩) 1 1) 1 [vU16 (r16 r).1, vU16 (r16 r).2]) (.imp (.pick (A := cel _ bs _ _) (by repeat (first | with_reducible exact Pick.here | with_reducible apply Pick.there))) (fun r h => sl_row (k := 2) (n := 1) rfl r (by exact h))) ?_
    refine G.opc (by decide) (OpC.appendE (kk := 2) (bytes := 4) Try.underlying31 Try.type57 rfl rfl rfl rfl rfl Try.underlying31 rfl rfl (show Pick _ (sl true 2 (.slice aw _ _) _ _) _ from by repeat (first | with_reducible exact Pick.here | with_reducible apply Pick.there)) (by repeat (first | with_reducible exact Pick.here | with_reducible apply Pick.there)) rfl (room_of _ _ (by decide) (by simp only; rw [gapK_len (by omega)]; omega)) rfl (gpc_snoc _ _)) fun vw => ?_
    refine G.slv fun aw2 cw2 hvw hlw hcw => ?_
    subst hvw
    refine G.yld (by decide) (Yld.assign rfl) ?_
    refine G.done ?_
    refine G.nil ?_
    refine G.x_block (G.x_then ?_)
    refine G.region ?_
    refine G.yld (by decide) (Yld.add_i (b := (1 : Int)) rfl rfl (by omega)) ?_
    refine G.yld (by decide) (Yld.move rfl) ?_
    refine G.done ?_
    refine G.nil ?_
    refine G.x_then ?_
    exact G.againE (i + 1, aw2, cw2) (by simp only; omega) (.cons (t := 20) rfl (.cons (t := 21) rfl (.cons (t := 22) rfl (.as (t := 5) rfl (by simp only; rw [hk]; simp) .nil)))) (.cons (.lift (by simp only; omega)) (.cons (.pick (A := cel true b 111 _) (by repeat (first | with_reducible exact Pick.here | with_reducible apply Pick.there))) (.cons (.pick (A := sl true 2 (.slice a _ _) _ _) (by repeat (first | with_reducible exact Pick.here | with_reducible apply Pick.there))) (.cons (.imp (.pick (A := sl true 2 (.slice aw2 _ _) _ _) (by repeat (first | with_reducible exact Pick.here | with_reducible apply Pick.there))) (fun r h => by simp only; rw [hk]; simpa using h)) .nil))))
  · have hi2 : i = t := by simp only at hlt hi; omega
    subst hi2
    refine G.exit ?_
    refine G.x_exit_then (G.x_exit_then ?_)
    refine G.x_exit_block (G.x_then ?_)
    refine G.unframe (by repeat (first | exact App.nil | apply App.cons)) ?_
    refine G.seq ?_
    refine G.region ?_
    refine G.yld (by decide) (Yld.move rfl) ?_
    refine G.yld (by decide) (Yld.assign rfl) ?_
    refine G.done ?_
    refine G.ret ?_
    refine G.ret1 (.inr rfl) Try.results51 (.tmp rfl) ?_
    exact ⟨_, (.ex (aw, cw) (.star (.lift (by rw [gapK_len ht, htk])) (.star (entS (.pick (A := cel true b 111 _) (by repeat (first | with_reducible exact Pick.here | with_reducible apply Pick.there))) (.pick (A := sl true 2 (.slice a _ _) _ _) (by repeat (first | with_reducible exact Pick.here | with_reducible apply Pick.there))) rfl rfl) (.imp (.pick (A := sl true 2 (.slice aw _ _) _ _) (by repeat (first | with_reducible exact Pick.here | with_reducible apply Pick.there))) (fun q h => by rw [gapK_len ht, htk] at h; exact h)))))⟩
theorem nSack_spec (b : Nat) (s : Sp) (nx : List (Int × Value)) (ms : List Msg) (dups : List UInt32) (hsp : s.rows.length < 1000000) (hms : ms.length ≤ 1000000) (hmb : ∀ m ∈ ms, m.body.length ≤ 70000) (hd : dups.length ≤ 1000) : Sl.Spec Try.prog 21 [ptr b].toArray [isN b s nx ms dups] (fun v => ex fun (x : Option Addr × Nat × Option Addr × Nat) => star (lift (v = .agg (ckv (ckS s ms) (.slice x.1 (gapN s) x.2.1) (.slice x.2.2.1 dups.length x.2.2.2) nilS nilS nilS).toArray)) (star (isN b s nx ms []) (star (gapA s x.1 x.2.1) (sl true 1 (.slice x.2.2.1 dups.length x.2.2.2) dups.length (du dups))))) := by
  refine Sl.Spec.of_body (vs := [ptr b]) Try.func21 Try.ntmps21 (Nat.le_of_ble_eq_true rfl) rfl fun w0 F => ?_
  refine G.openN fun bs bj a d => ?_
  refine G.seq ?_
  refine G.region ?_
  refine G.opc (by decide) (OpC.alloc (cs := [.int .u8 0, .bool false, .bool false, .bool false, .bool false, .int .u32 0, .int .u16 0, .int .u32 0, .int .u32 0, .int .u32 0, .int .u32 0, .int .u32 0, .int .u16 0, .int .u16 0, .slice none 0 0, .slice none 0 0, .slice none 0 0, .slice none 0 0, .slice none 0 0]) Try.zeroValue36 rfl) fun b2 => ?_
  refine G.done ?_
  refine G.seq ?_
  refine G.cutX (X := Nat × Option Addr × Nat × Option Addr × Nat) (fun x => [(0, ptr b), (2, ptr b2), (3, ptr x.1)]) (fun x => [cel true b2 36 (ckv {} nilS nilS nilS nilS nilS), cel true x.1 36 (ckv (ckS s ms) (.slice x.2.1 (gapN s) x.2.2.1) (.slice x.2.2.2.1 dups.length x.2.2.2.2) nilS nilS nilS), gapA s x.2.1 x.2.2.1, sl true 1 (.slice x.2.2.2.1 dups.length x.2.2.2.2) dups.length (du dups), ncel b bs bj (.slice a dups.length d), isS bs s, isJ bj nx ms, sl true 1 (.slice a dups.length d) dups.length (du dups)]) ?_ (fun x => ?_)
  · have hhl := heldM_le hmb ms.length (Nat.le_refl _)
    refine G.draw Try_mixed (.still 0 (.still 1 (.still 2 (.still 3 (.still 5 (.still 6 (.still 7 (.still 8 (.still 13 (.still 14 (.still 15 (.still 16 (.still 18 (.still 19 (.still 20 (.still 21 (.two 4 true (.two 9 true (.still 10 (.still 11 (.still 12 (.two 17 true (.two 22 true (.still 23 (.loud 24 true (.loud 25 false (.done)))) 24 true (.loud 22 true (.loud 23 true (.loud 25 false (.done))))) 24 true (.loud 17 true (.loud 22 true (.loud 23 true (.loud 25 false (.done))))))))) 24 true (.loud 9 true (.still 10 (.still 11 (.still 12 (.loud 17 true (.loud 22 true (.loud 23 true (.loud 25 false (.done)))))))))) 24 true (.loud 4 true (.loud 9 true (.still 10 (.still 11 (.still 12 (.loud 17 true (.loud 22 true (.loud 23 true (.loud 25 false (.done))))))))))))))))))))))))))) (by kernel_rfl) (.cons (show Pick _ (cel true b 76 _) _ from by repeat (first | with_reducible exact Pick.here | with_reducible apply Pick.there)) .nil) ?_
    refine GO.yld (i := 0) rfl (by decide) (Yld.move rfl) ?_
    refine GO.yld (i := 1) rfl (by decide) (Yld.nilCheck rfl) ?_
    refine GO.yld (i := 2) rfl (by decide) (Yld.fieldAddr Try_fo76_1 rfl) ?_
    refine GO.yld (i := 3) rfl (by decide) (Yld.load rfl Try.isAgg71 (by repeat (first | with_reducible exact Pick.here | with_reducible apply Pick.there)) rfl) ?_
    refine GO.yld (i := 5) rfl (by decide) (Yld.move rfl) ?_
    refine GO.yld (i := 6) rfl (by decide) (Yld.nilCheck rfl) ?_
    refine GO.yld (i := 7) rfl (by decide) (Yld.fieldAddr Try_fo76_2 rfl) ?_
    refine GO.yld (i := 8) rfl (by decide) (Yld.load rfl Try.isAgg73 (by repeat (first | with_reducible exact Pick.here | with_reducible apply Pick.there)) rfl) ?_
    refine GO.yld (i := 13) rfl (by decide) (Yld.move rfl) ?_
    refine GO.yld (i := 14) rfl (by decide) (Yld.nilCheck rfl) ?_
    refine GO.yld (i := 15) rfl (by decide) (Yld.fieldAddr Try_fo76_1 rfl) ?_
    refine GO.yld (i := 16) rfl (by decide) (Yld.load rfl Try.isAgg71 (by repeat (first | with_reducible exact Pick.here | with_reducible apply Pick.there)) rfl) ?_
    refine GO.yld (i := 18) rfl (by decide) (Yld.move rfl) ?_
    refine GO.yld (i := 19) rfl (by decide) (Yld.nilCheck rfl) ?_
    refine GO.yld (i := 20) rfl (by decide) (Yld.fieldAddr Try_fo76_3 rfl) ?_
    refine GO.yld (i := 21) rfl (by decide) (Yld.load rfl Try.isAgg32 (by repeat (first | with_reducible exact Pick.here | with_reducible apply Pick.there)) rfl) ?_
    refine GO.two ?_ ?_
    · refine GO.opc (i := 4) rfl (by decide) (OpC.call Try.call27 rfl (sMark_spec bs s) (.cons (by repeat (first | with_reducible exact Pick.here | with_reducible apply Pick.there)) .nil)) (fun _ => (.cons (show Pick _ (cel true b 76 _) _ from by repeat (first | with_reducible exact Pick.here | with_reducible apply Pick.there)) .nil)) fun _ => ?_
      refine GO.star ?_
      refine GO.lift ?_
      rintro rfl
      refine GO.two ?_ ?_
      · refine GO.opc (i := 9) rfl (by decide) (OpC.call Try.call30 rfl (jHeld_spec bj nx ms hmb (by omega)) (.cons (by repeat (first | with_reducible exact Pick.here | with_reducible apply Pick.there)) .nil)) (fun _ => (.cons (show Pick _ (cel true b 76 _) _ from by repeat (first | with_reducible exact Pick.here | with_reducible apply Pick.there)) .nil)) fun _ => ?_
        refine GO.star ?_
        refine GO.lift ?_
        rintro rfl
        refine GO.yld (i := 10) rfl (by decide) (Yld.sub_i (a := (131072 : Int)) rfl rfl (by omega)) ?_
        refine GO.yld (i := 11) rfl (by decide) (Yld.max_i (a := (0 : Int)) rfl rfl) ?_
        refine GO.yld (i := 12) rfl (by decide) (Yld.conv_i_u32 Try.runUnderlying3 Try.runUnderlying22 rfl) ?_
        refine GO.two ?_ ?_
        · refine GO.opc (i := 17) rfl (by decide) (OpC.call Try.call51 rfl (sGaps_spec bs s hsp) (.cons (by repeat (first | with_reducible exact Pick.here | with_reducible apply Pick.there)) .nil)) (fun _ => (.cons (show Pick _ (cel true b 76 _) _ from by repeat (first | with_reducible exact Pick.here | with_reducible apply Pick.there)) .nil)) fun _ => ?_
          refine GO.ex fun x => ?_
          refine GO.star ?_
          refine GO.lift ?_
          rintro rfl
          refine GO.star ?_
          obtain ⟨ga, gc⟩ := x
          refine GO.two ?_ ?_
          · refine GO.opc (i := 22) rfl (by decide) (OpC.call Try.call52 rfl (cloneU (m := true) (n := dups.length) (cs := du dups) (.slice a dups.length d) (du_cell _) (room_of _ _ (by decide) (by omega))) (.cons (A := sl true 1 (.slice a _ _) _ _) (by repeat (first | with_reducible exact Pick.here | with_reducible apply Pick.there)) .nil)) (fun _ => (.cons (show Pick _ (cel true b 76 _) _ from by repeat (first | with_reducible exact Pick.here | with_reducible apply Pick.there)) .nil)) fun dv => ?_
            refine GO.star ?_
            refine GO.slv fun da dc hdv hdl hdc => ?_
            subst hdv
            refine GO.yld (i := 23) rfl (by decide) (Yld.buildS (cs := [_, _, _, _, _, _, _, _, _, _, _, _, _, _, _, _, _, _, _]) Try_z36 Try_pl36 rfl rfl (.cons rfl rfl (Nat.le_of_ble_eq_true rfl) (.cons rfl rfl (Nat.le_of_ble_eq_true rfl) (.cons rfl rfl (Nat.le_of_ble_eq_true rfl) (.cons rfl rfl (Nat.le_of_ble_eq_true rfl) (.cons rfl rfl (Nat.le_of_ble_eq_true rfl) .nil))))) rfl) ?_
            refine GO.opc (i := 24) rfl (by decide) (OpC.alloc (cs := [.int .u8 0, .bool false, .bool false, .bool false, .bool false, .int .u32 0, .int .u16 0, .int .u32 0, .int .u32 0, .int .u32 0, .int .u32 0, .int .u32 0, .int .u16 0, .int .u16 0, .slice none 0 0, .slice none 0 0, .slice none 0 0, .slice none 0 0, .slice none 0 0]) Try.zeroValue36 rfl) (fun _ => (.cons (show Pick _ (cel true b 76 _) _ from by repeat (first | with_reducible exact Pick.here | with_reducible apply Pick.there)) .nil)) fun b3 => ?_
            refine GO.x ?_
            refine GX.op0 (i := 25) rfl  (OpC.storeAgg (k := 19) Try.sizeOf36 rfl rfl rfl rfl (by repeat (first | with_reducible exact Pick.here | with_reducible apply Pick.there)) (setWhole rfl) (Nat.le_of_ble_eq_true rfl)) fun _ => ?_
            refine GX.done ?_
            refine G.nil ?_
            exact G.cutXEnd (b3, ga, gc, da, dc) (.cons (t := 0) rfl (.cons (t := 2) rfl (.cons (t := 3) rfl .nil))) (.cons (.imp (.pick (A := cel true b2 36 _) (by repeat (first | with_reducible exact Pick.here | with_reducible apply Pick.there))) (fun r h => by exact h)) (.cons (.imp (.pick (A := cel true b3 36 _) (by repeat (first | with_reducible exact Pick.here | with_reducible apply Pick.there))) (fun r h => by exact h)) (.cons (.pick (A := sl true 2 (.slice ga _ _) _ _) (by repeat (first | with_reducible exact Pick.here | with_reducible apply Pick.there))) (.cons (.pick (A := sl true 1 (.slice da _ _) _ _) (by repeat (first | with_reducible exact Pick.here | with_reducible apply Pick.there))) (.cons (.pick (A := cel true b 76 _) (by repeat (first | with_reducible exact Pick.here | with_reducible apply Pick.there))) (.cons (.pick (A := isS bs _) (by repeat (first | with_reducible exact Pick.here | with_reducible apply Pick.there))) (.cons (.pick (A := isJ bj _ _) (by repeat (first | with_reducible exact Pick.here | with_reducible apply Pick.there))) (.cons (.pick (A := sl true 1 (.slice a _ _) _ _) (by repeat (first | with_reducible exact Pick.here | with_reducible apply Pick.there))) .nil))))))))
          · refine GO.opc (i := 24) rfl (by decide) (OpC.alloc (cs := [.int .u8 0, .bool false, .bool false, .bool false, .bool false, .int .u32 0, .int .u16 0, .int .u32 0, .int .u32 0, .int .u32 0, .int .u32 0, .int .u32 0, .int .u16 0, .int .u16 0, .slice none 0 0, .slice none 0 0, .slice none 0 0, .slice none 0 0, .slice none 0 0]) Try.zeroValue36 rfl) (fun _ => (.cons (show Pick _ (cel true b 76 _) _ from by repeat (first | with_reducible exact Pick.here | with_reducible apply Pick.there)) .nil)) fun b3 => ?_
            refine GO.opc (i := 22) rfl (by decide) (OpC.call Try.call52 rfl (cloneU (m := true) (n := dups.length) (cs := du dups) (.slice a dups.length d) (du_cell _) (room_of _ _ (by decide) (by omega))) (.cons (A := sl true 1 (.slice a _ _) _ _) (by repeat (first | with_reducible exact Pick.here | with_reducible apply Pick.there)) .nil)) (fun _ => (.cons (show Pick _ (cel true b 76 _) _ from by repeat (first | with_reducible exact Pick.here | with_reducible apply Pick.there)) .nil)) fun dv => ?_
            refine GO.star ?_
            refine GO.slv fun da dc hdv hdl hdc => ?_
            subst hdv
            refine GO.lyld (i := 23) rfl (by decide) (Yld.buildS (cs := [_, _, _, _, _, _, _, _, _, _, _, _, _, _, _, _, _, _, _]) Try_z36 Try_pl36 rfl rfl (.cons rfl rfl (Nat.le_of_ble_eq_true rfl) (.cons rfl rfl (Nat.le_of_ble_eq_true rfl) (.cons rfl rfl (Nat.le_of_ble_eq_true rfl) (.cons rfl rfl (Nat.le_of_ble_eq_true rfl) (.cons rfl rfl (Nat.le_of_ble_eq_true rfl) .nil))))) rfl) ?_
            refine GO.x ?_
            refine GX.op0 (i := 25) rfl  (OpC.storeAgg (k := 19) Try.sizeOf36 rfl rfl rfl rfl (by repeat (first | with_reducible exact Pick.here | with_reducible apply Pick.there)) (setWhole rfl) (Nat.le_of_ble_eq_true rfl)) fun _ => ?_
            refine GX.done ?_
            refine G.nil ?_
            exact G.cutXEnd (b3, ga, gc, da, dc) (.cons (t := 0) rfl (.cons (t := 2) rfl (.cons (t := 3) rfl .nil))) (.cons (.imp (.pick (A := cel true b2 36 _) (by repeat (first | with_reducible exact Pick.here | with_reducible apply Pick.there))) (fun r h => by exact h)) (.cons (.imp (.pick (A := cel true b3 36 _) (by repeat (first | with_reducible exact Pick.here | with_reducible apply Pick.there))) (fun r h => by exact h)) (.cons (.pick (A := sl true 2 (.slice ga _ _) _ _) (by repeat (first | with_reducible exact Pick.here | with_reducible apply Pick.there))) (.cons (.pick (A := sl true 1 (.slice da _ _) _ _) (by repeat (first | with_reducible exact Pick.here | with_reducible apply Pick.there))) (.cons (.pick (A := cel true b 76 _) (by repeat (first | with_reducible exact Pick.here | with_reducible apply Pick.there))) (.cons (.pick (A := isS bs _) (by repeat (first | with_reducible exact Pick.here | with_reducible apply Pick.there))) (.cons (.pick (A := isJ bj _ _) (by repeat (first | with_reducible exact Pick.here | with_reducible apply Pick.there))) (.cons (.pick (A := sl true 1 (.slice a _ _) _ _) (by repeat (first | with_reducible exact Pick.here | with_reducible apply Pick.there))) .nil))))))))
        · refine GO.opc (i := 24) rfl (by decide) (OpC.alloc (cs := [.int .u8 0, .bool false, .bool false, .bool false, .bool false, .int .u32 0, .int .u16 0, .int .u32 0, .int .u32 0, .int .u32 0, .int .u32 0, .int .u32 0, .int .u16 0, .int .u16 0, .slice none 0 0, .slice none 0 0, .slice none 0 0, .slice none 0 0, .slice none 0 0]) Try.zeroValue36 rfl) (fun _ => (.cons (show Pick _ (cel true b 76 _) _ from by repeat (first | with_reducible exact Pick.here | with_reducible apply Pick.there)) .nil)) fun b3 => ?_
          refine GO.opc (i := 17) rfl (by decide) (OpC.call Try.call51 rfl (sGaps_spec bs s hsp) (.cons (by repeat (first | with_reducible exact Pick.here | with_reducible apply Pick.there)) .nil)) (fun _ => (.cons (show Pick _ (cel true b 76 _) _ from by repeat (first | with_reducible exact Pick.here | with_reducible apply Pick.there)) .nil)) fun _ => ?_
          refine GO.ex fun x => ?_
          refine GO.star ?_
          refine GO.lift ?_
          rintro rfl
          refine GO.star ?_
          obtain ⟨ga, gc⟩ := x
          refine GO.opc (i := 22) rfl (by decide) (OpC.call Try.call52 rfl (cloneU (m := true) (n := dups.length) (cs := du dups) (.slice a dups.length d) (du_cell _) (room_of _ _ (by decide) (by omega))) (.cons (A := sl true 1 (.slice a _ _) _ _) (by repeat (first | with_reducible exact Pick.here | with_reducible apply Pick.there)) .nil)) (fun _ => (.cons (show Pick _ (cel true b 76 _) _ from by repeat (first | with_reducible exact Pick.here | with_reducible apply Pick.there)) .nil)) fun dv => ?_
          refine GO.star ?_
          refine GO.slv fun da dc hdv hdl hdc => ?_
          subst hdv
          refine GO.lyld (i := 23) rfl (by decide) (Yld.buildS (cs := [_, _, _, _, _, _, _, _, _, _, _, _, _, _, _, _, _, _, _]) Try_z36 Try_pl36 rfl rfl (.cons rfl rfl (Nat.le_of_ble_eq_true rfl) (.cons rfl rfl (Nat.le_of_ble_eq_true rfl) (.cons rfl rfl (Nat.le_of_ble_eq_true rfl) (.cons rfl rfl (Nat.le_of_ble_eq_true rfl) (.cons rfl rfl (Nat.le_of_ble_eq_true rfl) .nil))))) rfl) ?_
          refine GO.x ?_
          refine GX.op0 (i := 25) rfl  (OpC.storeAgg (k := 19) Try.sizeOf36 rfl rfl rfl rfl (by repeat (first | with_reducible exact Pick.here | with_reducible apply Pick.there)) (setWhole rfl) (Nat.le_of_ble_eq_true rfl)) fun _ => ?_
          refine GX.done ?_
          refine G.nil ?_
          exact G.cutXEnd (b3, ga, gc, da, dc) (.cons (t := 0) rfl (.cons (t := 2) rfl (.cons (t := 3) rfl .nil))) (.cons (.imp (.pick (A := cel true b2 36 _) (by repeat (first | with_reducible exact Pick.here | with_reducible apply Pick.there))) (fun r h => by exact h)) (.cons (.imp (.pick (A := cel true b3 36 _) (by repeat (first | with_reducible exact Pick.here | with_reducible apply Pick.there))) (fun r h => by exact h)) (.cons (.pick (A := sl true 2 (.slice ga _ _) _ _) (by repeat (first | with_reducible exact Pick.here | with_reducible apply Pick.there))) (.cons (.pick (A := sl true 1 (.slice da _ _) _ _) (by repeat (first | with_reducible exact Pick.here | with_reducible apply Pick.there))) (.cons (.pick (A := cel true b 76 _) (by repeat (first | with_reducible exact Pick.here | with_reducible apply Pick.there))) (.cons (.pick (A := isS bs _) (by repeat (first | with_reducible exact Pick.here | with_reducible apply Pick.there))) (.cons (.pick (A := isJ bj _ _) (by repeat (first | with_reducible exact Pick.here | with_reducible apply Pick.there))) (.cons (.pick (A := sl true 1 (.slice a _ _) _ _) (by repeat (first | with_reducible exact Pick.here | with_reducible apply Pick.there))) .nil))))))))
      · refine GO.opc (i := 24) rfl (by decide) (OpC.alloc (cs := [.int .u8 0, .bool false, .bool false, .bool false, .bool false, .int .u32 0, .int .u16 0, .int .u32 0, .int .u32 0, .int .u32 0, .int .u32 0, .int .u32 0, .int .u16 0, .int .u16 0, .slice none 0 0, .slice none 0 0, .slice none 0 0, .slice none 0 0, .slice none 0 0]) Try.zeroValue36 rfl) (fun _ => (.cons (show Pick _ (cel true b 76 _) _ from by repeat (first | with_reducible exact Pick.here | with_reducible apply Pick.there)) .nil)) fun b3 => ?_
        refine GO.opc (i := 9) rfl (by decide) (OpC.call Try.call30 rfl (jHeld_spec bj nx ms hmb (by omega)) (.cons (by repeat (first | with_reducible exact Pick.here | with_reducible apply Pick.there)) .nil)) (fun _ => (.cons (show Pick _ (cel true b 76 _) _ from by repeat (first | with_reducible exact Pick.here | with_reducible apply Pick.there)) .nil)) fun _ => ?_
        refine GO.star ?_
        refine GO.lift ?_
        rintro rfl
        refine GO.yld (i := 10) rfl (by decide) (Yld.sub_i (a := (131072 : Int)) rfl rfl (by omega)) ?_
        refine GO.yld (i := 11) rfl (by decide) (Yld.max_i (a := (0 : Int)) rfl rfl) ?_
        refine GO.yld (i := 12) rfl (by decide) (Yld.conv_i_u32 Try.runUnderlying3 Try.runUnderlying22 rfl) ?_
        refine GO.opc (i := 17) rfl (by decide) (OpC.call Try.call51 rfl (sGaps_spec bs s hsp) (.cons (by repeat (first | with_reducible exact Pick.here | with_reducible apply Pick.there)) .nil)) (fun _ => (.cons (show Pick _ (cel true b 76 _) _ from by repeat (first | with_reducible exact Pick.here | with_reducible apply Pick.there)) .nil)) fun _ => ?_
        refine GO.ex fun x => ?_
        refine GO.star ?_
        refine GO.lift ?_
        rintro rfl
        refine GO.star ?_
        obtain ⟨ga, gc⟩ := x
        refine GO.opc (i := 22) rfl (by decide) (OpC.call Try.call52 rfl (cloneU (m := true) (n := dups.length) (cs := du dups) (.slice a dups.length d) (du_cell _) (room_of _ _ (by decide) (by omega))) (.cons (A := sl true 1 (.slice a _ _) _ _) (by repeat (first | with_reducible exact Pick.here | with_reducible apply Pick.there)) .nil)) (fun _ => (.cons (show Pick _ (cel true b 76 _) _ from by repeat (first | with_reducible exact Pick.here | with_reducible apply Pick.there)) .nil)) fun dv => ?_
        refine GO.star ?_
        refine GO.slv fun da dc hdv hdl hdc => ?_
        subst hdv
        refine GO.lyld (i := 23) rfl (by decide) (Yld.buildS (cs := [_, _, _, _, _, _, _, _, _, _, _, _, _, _, _, _, _, _, _]) Try_z36 Try_pl36 rfl rfl (.cons rfl rfl (Nat.le_of_ble_eq_true rfl) (.cons rfl rfl (Nat.le_of_ble_eq_true rfl) (.cons rfl rfl (Nat.le_of_ble_eq_true rfl) (.cons rfl rfl (Nat.le_of_ble_eq_true rfl) (.cons rfl rfl (Nat.le_of_ble_eq_true rfl) .nil))))) rfl) ?_
        refine GO.x ?_
        refine GX.op0 (i := 25) rfl  (OpC.storeAgg (k := 19) Try.sizeOf36 rfl rfl rfl rfl (by repeat (first | with_reducible exact Pick.here | with_reducible apply Pick.there)) (setWhole rfl) (Nat.le_of_ble_eq_true rfl)) fun _ => ?_
        refine GX.done ?_
        refine G.nil ?_
        exact G.cutXEnd (b3, ga, gc, da, dc) (.cons (t := 0) rfl (.cons (t := 2) rfl (.cons (t := 3) rfl .nil))) (.cons (.imp (.pick (A := cel true b2 36 _) (by repeat (first | with_reducible exact Pick.here | with_reducible apply Pick.there))) (fun r h => by exact h)) (.cons (.imp (.pick (A := cel true b3 36 _) (by repeat (first | with_reducible exact Pick.here | with_reducible apply Pick.there))) (fun r h => by exact h)) (.cons (.pick (A := sl true 2 (.slice ga _ _) _ _) (by repeat (first | with_reducible exact Pick.here | with_reducible apply Pick.there))) (.cons (.pick (A := sl true 1 (.slice da _ _) _ _) (by repeat (first | with_reducible exact Pick.here | with_reducible apply Pick.there))) (.cons (.pick (A := cel true b 76 _) (by repeat (first | with_reducible exact Pick.here | with_reducible apply Pick.there))) (.cons (.pick (A := isS bs _) (by repeat (first | with_reducible exact Pick.here | with_reducible apply Pick.there))) (.cons (.pick (A := isJ bj _ _) (by repeat (first | with_reducible exact Pick.here | with_reducible apply Pick.there))) (.cons (.pick (A := sl true 1 (.slice a _ _) _ _) (by repeat (first | with_reducible exact Pick.here | with_reducible apply Pick.there))) .nil))))))))
    · refine GO.opc (i := 24) rfl (by decide) (OpC.alloc (cs := [.int .u8 0, .bool false, .bool false, .bool false, .bool false, .int .u32 0, .int .u16 0, .int .u32 0, .int .u32 0, .int .u32 0, .int .u32 0, .int .u32 0, .int .u16 0, .int .u16 0, .slice none 0 0, .slice none 0 0, .slice none 0 0, .slice none 0 0, .slice none 0 0]) Try.zeroValue36 rfl) (fun _ => (.cons (show Pick _ (cel true b 76 _) _ from by repeat (first | with_reducible exact Pick.here | with_reducible apply Pick.there)) .nil)) fun b3 => ?_
      refine GO.opc (i := 4) rfl (by decide) (OpC.call Try.call27 rfl (sMark_spec bs s) (.cons (by repeat (first | with_reducible exact Pick.here | with_reducible apply Pick.there)) .nil)) (fun _ => (.cons (show Pick _ (cel true b 76 _) _ from by repeat (first | with_reducible exact Pick.here | with_reducible apply Pick.there)) .nil)) fun _ => ?_
      refine GO.star ?_
      refine GO.lift ?_
      rintro rfl
      refine GO.opc (i := 9) rfl (by decide) (OpC.call Try.call30 rfl (jHeld_spec bj nx ms hmb (by omega)) (.cons (by repeat (first | with_reducible exact Pick.here | with_reducible apply Pick.there)) .nil)) (fun _ => (.cons (show Pick _ (cel true b 76 _) _ from by repeat (first | with_reducible exact Pick.here | with_reducible apply Pick.there)) .nil)) fun _ => ?_
      refine GO.star ?_
      refine GO.lift ?_
      rintro rfl
      refine GO.yld (i := 10) rfl (by decide) (Yld.sub_i (a := (131072 : Int)) rfl rfl (by omega)) ?_
      refine GO.yld (i := 11) rfl (by decide) (Yld.max_i (a := (0 : Int)) rfl rfl) ?_
      refine GO.yld (i := 12) rfl (by decide) (Yld.conv_i_u32 Try.runUnderlying3 Try.runUnderlying22 rfl) ?_
      refine GO.opc (i := 17) rfl (by decide) (OpC.call Try.call51 rfl (sGaps_spec bs s hsp) (.cons (by repeat (first | with_reducible exact Pick.here | with_reducible apply Pick.there)) .nil)) (fun _ => (.cons (show Pick _ (cel true b 76 _) _ from by repeat (first | with_reducible exact Pick.here | with_reducible apply Pick.there)) .nil)) fun _ => ?_
      refine GO.ex fun x => ?_
      refine GO.star ?_
      refine GO.lift ?_
      rintro rfl
      refine GO.star ?_
      obtain ⟨ga, gc⟩ := x
      refine GO.opc (i := 22) rfl (by decide) (OpC.call Try.call52 rfl (cloneU (m := true) (n := dups.length) (cs := du dups) (.slice a dups.length d) (du_cell _) (room_of _ _ (by decide) (by omega))) (.cons (A := sl true 1 (.slice a _ _) _ _) (by repeat (first | with_reducible exact Pick.here | with_reducible apply Pick.there)) .nil)) (fun _ => (.cons (show Pick _ (cel true b 76 _) _ from by repeat (first | with_reducible exact Pick.here | with_reducible apply Pick.there)) .nil)) fun dv => ?_
      refine GO.star ?_
      refine GO.slv fun da dc hdv hdl hdc => ?_
      subst hdv
      refine GO.lyld (i := 23) rfl (by decide) (Yld.buildS (cs := [_, _, _, _, _, _, _, _, _, _, _, _, _, _, _, _, _, _, _]) Try_z36 Try_pl36 rfl rfl (.cons rfl rfl (Nat.le_of_ble_eq_true rfl) (.cons rfl rfl (Nat.le_of_ble_eq_true rfl) (.cons rfl rfl (Nat.le_of_ble_eq_true rfl) (.cons rfl rfl (Nat.le_of_ble_eq_true rfl) (.cons rfl rfl (Nat.le_of_ble_eq_true rfl) .nil))))) rfl) ?_
      refine GO.x ?_
      refine GX.op0 (i := 25) rfl  (OpC.storeAgg (k := 19) Try.sizeOf36 rfl rfl rfl rfl (by repeat (first | with_reducible exact Pick.here | with_reducible apply Pick.there)) (setWhole rfl) (Nat.le_of_ble_eq_true rfl)) fun _ => ?_
      refine GX.done ?_
      refine G.nil ?_
      exact G.cutXEnd (b3, ga, gc, da, dc) (.cons (t := 0) rfl (.cons (t := 2) rfl (.cons (t := 3) rfl .nil))) (.cons (.imp (.pick (A := cel true b2 36 _) (by repeat (first | with_reducible exact Pick.here | with_reducible apply Pick.there))) (fun r h => by exact h)) (.cons (.imp (.pick (A := cel true b3 36 _) (by repeat (first | with_reducible exact Pick.here | with_reducible apply Pick.there))) (fun r h => by exact h)) (.cons (.pick (A := sl true 2 (.slice ga _ _) _ _) (by repeat (first | with_reducible exact Pick.here | with_reducible apply Pick.there))) (.cons (.pick (A := sl true 1 (.slice da _ _) _ _) (by repeat (first | with_reducible exact Pick.here | with_reducible apply Pick.there))) (.cons (.pick (A := cel true b 76 _) (by repeat (first | with_reducible exact Pick.here | with_reducible apply Pick.there))) (.cons (.pick (A := isS bs _) (by repeat (first | with_reducible exact Pick.here | with_reducible apply Pick.there))) (.cons (.pick (A := isJ bj _ _) (by repeat (first | with_reducible exact Pick.here | with_reducible apply Pick.there))) (.cons (.pick (A := sl true 1 (.slice a _ _) _ _) (by repeat (first | with_reducible exact Pick.here | with_reducible apply Pick.there))) .nil))))))))
  obtain ⟨b3, ga, gc, da, dc⟩ := x
  simp only
  refine G.seq ?_
  refine G.region ?_
  refine G.yld (by decide) (Yld.move rfl) ?_
  refine G.yld (by decide) (Yld.nilCheck rfl) ?_
  refine G.yld (by decide) (Yld.fieldAddr Try_fo76_3 rfl) ?_
  refine G.op0  (OpC.storeS (.succ (.succ (.succ .zero))) Try.sizeOf32 rfl rfl rfl (by repeat (first | with_reducible exact Pick.here | with_reducible apply Pick.there))) fun _ => ?_
  refine G.done ?_
  refine G.seq ?_
  refine G.region ?_
  refine G.yld (by decide) (Yld.loadAgg (cs := [_, _, _, _, _, _, _, _, _, _, _, _, _, _, _, _, _, _, _]) rfl Try.isAgg36 Try.sizeOf36 (by repeat (first | with_reducible exact Pick.here | with_reducible apply Pick.there)) rfl (aggAt rfl)) ?_
  refine G.op0  (OpC.storeAgg (k := 19) Try.sizeOf36 rfl rfl rfl rfl (by repeat (first | with_reducible exact Pick.here | with_reducible apply Pick.there)) (setWhole rfl) (Nat.le_of_ble_eq_true rfl)) fun _ => ?_
  refine G.done ?_
  refine G.ret ?_
  refine G.ret1 (.inr rfl) Try.results21 (.agg (cs := [_, _, _, _, _, _, _, _, _, _, _, _, _, _, _, _, _, _, _]) rfl Try.isAgg36 Try.sizeOf36 (by repeat (first | with_reducible exact Pick.here | with_reducible apply Pick.there)) rfl (aggAt rfl)) ?_
  exact ⟨_, (.ex (ga, gc, da, dc) (.star (.lift rfl) (.star (entN (.imp (.pick (A := cel true b 76 _) (by repeat (first | with_reducible exact Pick.here | with_reducible apply Pick.there))) (fun r h => by exact h)) (.pick (by repeat (first | with_reducible exact Pick.here | with_reducible apply Pick.there))) (.pick (by repeat (first | with_reducible exact Pick.here | with_reducible apply Pick.there))) (.imp .emp fun _ _ => sl_nil) rfl rfl) (.star (.pick (A := sl true 2 (.slice ga _ _) _ _) (by repeat (first | with_reducible exact Pick.here | with_reducible apply Pick.there))) (.pick (A := sl true 1 (.slice da _ _) _ _) (by repeat (first | with_reducible exact Pick.here | with_reducible apply Pick.there)))))))⟩
end Go.Fl
