/- Contracts, printed by a program of mine and proved by Lean. -/
import Derived.Test.YtogemllbdkbjkaaFlC1
set_option linter.unusedVariables false
set_option linter.unusedSimpArgs false
namespace Go.Fl
open Go Go.Sl Go.Proofs
set_option maxRecDepth 10000
set_option linter.unusedVariables false
theorem sNew_spec (m : UInt32) : Sl.Spec Try.prog 23 [vU32 m].toArray [] (fun v => ex fun b => star (lift (v = ptr b)) (isS b ⟨m, []⟩)) := by
  refine Sl.Spec.of_body (vs := [vU32 m]) Try.func23 Try.ntmps23 (Nat.le_of_ble_eq_true rfl) rfl fun w0 F => ?_
  refine G.seq ?_
  refine G.region ?_
  refine G.yld (by decide) (Yld.assign rfl) ?_
  refine G.done ?_
  refine G.seq ?_
  refine G.region ?_
  refine G.yld (by decide) (Yld.move rfl) ?_
  refine G.yld (by decide) (Yld.buildS (cs := [_, _]) Try_z111 Try_pl111 rfl rfl (.cons rfl rfl (Nat.le_of_ble_eq_true rfl) .nil) rfl) ?_
  refine G.opc (by decide) (OpC.box (cs := [_, _]) rfl rfl) fun b1 => ?_
  refine G.yld (by decide) (Yld.assign rfl) ?_
  refine G.done ?_
  refine G.ret ?_
  refine G.ret1 (.inr rfl) Try.results23 (.tmp rfl) ?_
  exact ⟨_, (.ex _ (.star (.lift rfl) (entS (a := none) (c := 0) (.imp (.pick (A := cel true _ 111 _) (by repeat (first | with_reducible exact Pick.here | with_reducible apply Pick.there))) (fun _ h => by exact h)) (.imp .emp fun _ _ => sl_nil) rfl rfl)))⟩
theorem sMark_spec (b : Nat) (s : Sp) : Sl.Spec Try.prog 27 [ptr b].toArray [isS b s] (fun v => star (lift (v = vU32 s.mark)) (isS b s)) := by
  refine Sl.Spec.of_body (vs := [ptr b]) Try.func27 Try.ntmps27 (Nat.le_of_ble_eq_true rfl) rfl fun w0 F => ?_
  refine G.openS fun a c => ?_
  refine G.seq ?_
  refine G.region ?_
  refine G.yld (by decide) (Yld.assign rfl) ?_
  refine G.done ?_
  refine G.seq ?_
  refine G.region ?_
  refine G.yld (by decide) (Yld.move rfl) ?_
  refine G.yld (by decide) (Yld.nilCheck rfl) ?_
  refine G.yld (by decide) (Yld.fieldAddr Try_fo111_0 rfl) ?_
  refine G.yld (by decide) (Yld.load rfl Try.isAgg22 (by repeat (first | with_reducible exact Pick.here | with_reducible apply Pick.there)) rfl) ?_
  refine G.yld (by decide) (Yld.assign rfl) ?_
  refine G.done ?_
  refine G.ret ?_
  refine G.ret1 (.inr rfl) Try.results27 (.tmp rfl) ?_
  exact ⟨_, (.star (.lift rfl) (entS (.pick (by repeat (first | with_reducible exact Pick.here | with_reducible apply Pick.there))) (.pick (by repeat (first | with_reducible exact Pick.here | with_reducible apply Pick.there))) rfl rfl))⟩
theorem sCmp_spec (r : Row) (d : UInt32) : Sl.Spec Try.prog 82 [.agg (rowv r).toArray, vU32 d].toArray [] (fun v => lift (v = vI (if r.2 < d then -1 else 1))) := by
  refine Sl.Spec.of_body (vs := [.agg (rowv r).toArray, vU32 d]) Try.func82 Try.ntmps82 (Nat.le_of_ble_eq_true rfl) rfl fun w0 F => ?_
  refine G.seq ?_
  refine G.region ?_
  refine G.opc (by decide) (OpC.box (cs := [_, _]) rfl rfl) fun b1 => ?_
  refine G.yld (by decide) (Yld.assign rfl) ?_
  refine G.done ?_
  refine G.seq ?_
  refine G.seq ?_
  refine G.region ?_
  refine G.yld (by decide) (Yld.fieldAddr Try_fo121_1 rfl) ?_
  refine G.yld (by decide) (Yld.load rfl Try.isAgg22 (by repeat (first | with_reducible exact Pick.here | with_reducible apply Pick.there)) rfl) ?_
  refine G.yld (by decide) (Yld.move rfl) ?_
  refine G.yld (by decide) (Yld.lss_u32 rfl rfl) ?_
  refine G.done ?_
  refine G.condP rfl (fun hc => ?_) (fun hc => ?_)
  · refine G.seq ?_
    refine G.region ?_
    refine G.yld (by decide) (Yld.assign rfl) ?_
    refine G.done ?_
    refine G.ret ?_
    refine G.ret1 (.inr rfl) Try.results82 (.tmp rfl) ?_
    exact ⟨_, (.lift (by rw [if_pos hc]))⟩
  · refine G.skip ?_
    refine G.seq ?_
    refine G.region ?_
    refine G.yld (by decide) (Yld.assign rfl) ?_
    refine G.done ?_
    refine G.ret ?_
    refine G.ret1 (.inr rfl) Try.results82 (.tmp rfl) ?_
    exact ⟨_, (.lift (by rw [if_neg hc]))⟩
theorem search_spec (a : Option Addr) (c : Nat) (rows : List Row) (d : UInt32) (hsmall : rows.length < 1000000) : Sl.Spec Try.prog 81 [.slice a rows.length c, vU32 d, .func (.func 82) #[] #[]].toArray [sl true 2 (.slice a rows.length c) rows.length (rowc rows)] (fun v => star (lift (v = .tuple #[vI (atS rows d : Nat), .bool false])) (sl true 2 (.slice a rows.length c) rows.length (rowc rows))) := by
  refine Sl.Spec.of_body (vs := [.slice a rows.length c, vU32 d, .func (.func 82) #[] #[]]) Try.func81 Try.ntmps81 (Nat.le_of_ble_eq_true rfl) rfl fun w0 F => ?_
  refine G.seq ?_
  refine G.region ?_
  refine G.yld (by decide) (Yld.assign rfl) ?_
  refine G.yld (by decide) (Yld.assign rfl) ?_
  refine G.done ?_
  refine G.seq ?_
  refine G.region ?_
  refine G.yld (by decide) (Yld.move rfl) ?_
  refine G.yld (by decide) (Yld.len_slice Try.runUnderlying109 rfl) ?_
  refine G.yld (by decide) (Yld.assign rfl) ?_
  refine G.done ?_
  refine G.seq ?_
  refine G.region ?_
  refine G.yld (by decide) (Yld.move rfl) ?_
  refine G.yld (by decide) (Yld.assign rfl) ?_
  refine G.yld (by decide) (Yld.assign rfl) ?_
  refine G.done ?_
  refine G.seq ?_
  refine G.block ?_
  refine G.loopE (X := Nat × Nat) (fun x => [(0, .slice a rows.length c), (1, vU32 d), (2, .func (.func 82) #[] #[]), (8, vI rows.length), (9, vI x.1), (10, vI x.2)]) (fun x => [lift (x.1 ≤ x.2 ∧ x.2 ≤ rows.length ∧ bsf rows d rows.length x.1 x.2 = atS rows d), sl true 2 (.slice a rows.length c) rows.length (rowc rows)]) (fun x => x.2 - x.1) (0, rows.length) (.cons (t := 0) rfl (.cons (t := 1) rfl (.cons (t := 2) rfl (.cons (t := 8) rfl (.cons (t := 9) rfl (.cons (t := 10) rfl .nil)))))) (.cons (.lift ⟨Nat.zero_le _, Nat.le_refl _, rfl⟩) (.cons (.pick (by repeat (first | with_reducible exact Pick.here | with_reducible apply Pick.there))) .nil)) fun ⟨i, j⟩ => ?_
  refine G.lift fun hij => ?_
  obtain ⟨hij, hj, hb⟩ := hij
  simp only at hij hj hb
  refine G.seq ?_
  refine G.seq ?_
  refine G.region ?_
  refine G.yld (by decide) (Yld.move rfl) ?_
  refine G.yld (by decide) (Yld.move rfl) ?_
  refine G.yld (by decide) (Yld.lss_i rfl rfl) ?_
  refine G.done ?_
  refine G.condP rfl (fun hlt => ?_) (fun hlt => ?_)
  · have hlt2 : i < j := by simpa using hlt
    refine G.skip ?_
    refine G.block ?_
    refine G.seq ?_
    refine G.region ?_
    refine G.yld (by decide) (Yld.move rfl) ?_
    refine G.yld (by decide) (Yld.move rfl) ?_
    refine G.yld (by decide) (Yld.add_i rfl rfl (by omega)) ?_
    refine G.yld (by decide) (Yld.conv_i_u64 Try.runUnderlying3 Try.runUnderlying64 rfl) ?_
    refine G.yld (by decide) (Yld.shr1_u64 rfl rfl) ?_
    refine G.yld (by decide) (Yld.conv_u64_i Try.runUnderlying64 Try.runUnderlying3 rfl (by simp only; rw [half64 (by omega)]; omega)) ?_
    simp only
    rw [half64 (by omega)]
    obtain ⟨h, hh⟩ : ∃ h, (i + j) / 2 = h := ⟨_, rfl⟩
    have hh2 : i ≤ h ∧ h < j := by omega
    rw [hh]
    refine G.yld (by decide) (Yld.assign rfl) ?_
    refine G.done ?_
    refine G.seq ?_
    refine G.region ?_
    refine G.yld (by decide) (Yld.move rfl) ?_
    refine G.yld (by decide) (Yld.move rfl) ?_
    refine G.yld (by decide) (Yld.move rfl) ?_
    refine G.yld (by decide) (Yld.indexE Try.runUnderlying109 Try.sizeOf121 rfl rfl (by repeat (first | with_reducible exact Pick.here | with_reducible apply Pick.there)) (by decide) (by omega) (by omega)) ?_
    refine G.yld (by decide) (Yld.loadAggE (us := (rowv (rAt rows h))) Try.isAgg121 Try.sizeOf121 rfl (by repeat (first | with_reducible exact Pick.here | with_reducible apply Pick.there)) rfl (by decide) (by rw [Int.toNat_natCast]; exact rowc_at (rAt_get (by omega)))) ?_
    refine G.yld (by decide) (Yld.move rfl) ?_
    refine G.opc (by decide) (OpC.callV (caps := []) Try.call82 rfl rfl rfl (sCmp_spec (rAt rows h) d) .nil) fun _ => ?_
    refine G.lift ?_
    rintro rfl
    refine G.yld (by decide) (Yld.lss_i (b := (0 : Int)) rfl rfl) ?_
    refine G.as (t := 31) (v := .bool (decide ((rAt rows h).2 < d))) rfl (congrArg Value.bool (by by_cases h0 : (rAt rows h).2 < d <;> simp only [h0, if_true, if_false] <;> decide)) ?_
    refine G.done ?_
    refine G.condP rfl (fun hc => ?_) (fun hc => ?_)
    · refine G.region ?_
      refine G.yld (by decide) (Yld.move rfl) ?_
      refine G.yld (by decide) (Yld.add_i (b := (1 : Int)) rfl rfl (by omega)) ?_
      refine G.yld (by decide) (Yld.assign rfl) ?_
      refine G.done ?_
      refine G.nil ?_
      refine G.x_block (G.x_then ?_)
      refine G.nil ?_
      refine G.x_then ?_
      exact G.againE (h + 1, j) (by simp only; omega) (.cons (t := 0) rfl (.cons (t := 1) rfl (.cons (t := 2) rfl (.cons (t := 8) rfl (.cons (t := 9) rfl (.cons (t := 10) rfl .nil)))))) (.cons (.lift ⟨by simp only; omega, hj, by rw [← hb, bsf_low hlt2 (by omega) (by rw [hh]; exact hc), hh]⟩) (.cons (.pick (by repeat (first | with_reducible exact Pick.here | with_reducible apply Pick.there))) .nil))
    · refine G.region ?_
      refine G.yld (by decide) (Yld.move rfl) ?_
      refine G.yld (by decide) (Yld.assign rfl) ?_
      refine G.done ?_
      refine G.nil ?_
      refine G.x_block (G.x_then ?_)
      refine G.nil ?_
      refine G.x_then ?_
      exact G.againE (i, h) (by simp only; omega) (.cons (t := 0) rfl (.cons (t := 1) rfl (.cons (t := 2) rfl (.cons (t := 8) rfl (.cons (t := 9) rfl (.cons (t := 10) rfl .nil)))))) (.cons (.lift ⟨by simp only; omega, by simp only; omega, by rw [← hb, bsf_high hlt2 (by omega) (by rw [hh]; exact hc), hh]⟩) (.cons (.pick (by repeat (first | with_reducible exact Pick.here | with_reducible apply Pick.there))) .nil))
  · have hij2 : i = j := Nat.le_antisymm hij (Nat.le_of_not_lt (by simpa using hlt))
    subst hij2
    rw [bsf_end (Nat.le_refl _)] at hb
    by_cases hil : i < rows.length
    · refine G.exit ?_
      refine G.x_exit_then (G.x_exit_then ?_)
      refine G.x_exit_block (G.x_then ?_)
      refine G.unframe (by repeat (first | exact App.nil | apply App.cons)) ?_
      refine G.seq ?_
      refine G.region ?_
      refine G.yld (by decide) (Yld.move rfl) ?_
      refine G.yld (by decide) (Yld.move rfl) ?_
      refine G.yld (by decide) (Yld.move rfl) ?_
      refine G.yld (by decide) (Yld.lss_i rfl rfl) ?_
      refine G.as (t := 38) (v := .bool true) rfl (congrArg Value.bool (decide_eq_true (by simp only; omega))) ?_
      refine G.yld (by decide) (Yld.move rfl) ?_
      refine G.yldG (by decide) rfl rfl (Yld.move rfl) ?_
      refine G.yldG (by decide) rfl rfl (Yld.move rfl) ?_
      refine G.yldG (by decide) rfl rfl (Yld.move rfl) ?_
      refine G.yldG (by decide) rfl rfl (Yld.indexE Try.runUnderlying109 Try.sizeOf121 rfl rfl (by repeat (first | with_reducible exact Pick.here | with_reducible apply Pick.there)) (by decide) (by omega) (by omega)) ?_
      refine G.yldG (by decide) rfl rfl (Yld.loadAggE (us := (rowv (rAt rows i))) Try.isAgg121 Try.sizeOf121 rfl (by repeat (first | with_reducible exact Pick.here | with_reducible apply Pick.there)) rfl (by decide) (by simp only [Int.toNat_natCast]; exact rowc_at (rAt_get (by omega)))) ?_
      refine G.yldG (by decide) rfl rfl (Yld.move rfl) ?_
      refine G.opG (by decide) rfl rfl (OpC.callV (caps := []) Try.call82 rfl rfl rfl (sCmp_spec (rAt rows i) d) .nil) fun _ => ?_
      refine G.lift ?_
      rintro rfl
      refine G.yldG (by decide) rfl rfl (Yld.eql_i (b := (0 : Int)) rfl rfl) ?_
      refine G.as (t := 47) (v := .bool false) rfl (congrArg Value.bool (decide_eq_false (by split <;> decide))) ?_
      refine G.yld (by decide) (Yld.pickT rfl rfl) ?_
      refine G.yld (by decide) (Yld.assign rfl) ?_
      refine G.yld (by decide) (Yld.assign rfl) ?_
      refine G.done ?_
      refine G.ret ?_
      refine G.ret2 (.inr rfl) Try.results81 (.tmp rfl) (.tmp rfl) ?_
      exact ⟨_, (.star (.lift (by rw [← hb])) (.pick (by repeat (first | with_reducible exact Pick.here | with_reducible apply Pick.there))))⟩
    · refine G.exit ?_
      refine G.x_exit_then (G.x_exit_then ?_)
      refine G.x_exit_block (G.x_then ?_)
      refine G.unframe (by repeat (first | exact App.nil | apply App.cons)) ?_
      refine G.seq ?_
      refine G.region ?_
      refine G.yld (by decide) (Yld.move rfl) ?_
      refine G.yld (by decide) (Yld.move rfl) ?_
      refine G.yld (by decide) (Yld.move rfl) ?_
      refine G.yld (by decide) (Yld.lss_i rfl rfl) ?_
      refine G.as (t := 38) (v := .bool false) rfl (congrArg Value.bool (decide_eq_false (by simp only; omega))) ?_
      refine G.yld (by decide) (Yld.move rfl) ?_
      refine G.skipG (by decide) rfl rfl rfl ?_
      refine G.skipG (by decide) rfl rfl rfl ?_
      refine G.skipG (by decide) rfl rfl rfl ?_
      refine G.skipG (by decide) rfl rfl rfl ?_
      refine G.skipG (by decide) rfl rfl rfl ?_
      refine G.skipG (by decide) rfl rfl rfl ?_
      refine G.skipG (by decide) rfl rfl rfl ?_
      refine G.skipG (by decide) rfl rfl rfl ?_
      refine G.yld (by decide) (Yld.pickF rfl rfl) ?_
      refine G.yld (by decide) (Yld.assign rfl) ?_
      refine G.yld (by decide) (Yld.assign rfl) ?_
      refine G.done ?_
      refine G.ret ?_
      refine G.ret2 (.inr rfl) Try.results81 (.tmp rfl) (.tmp rfl) ?_
      exact ⟨_, (.star (.lift (by rw [← hb])) (.pick (by repeat (first | with_reducible exact Pick.here | with_reducible apply Pick.there))))⟩
theorem sAt_spec (b : Nat) (s : Sp) (d : UInt32) (hsmall : s.rows.length < 1000000) : Sl.Spec Try.prog 54 [ptr b, vU32 d].toArray [isS b s] (fun v => star (lift (v = vI (atS s.rows d : Nat))) (isS b s)) := by
  refine Sl.Spec.of_body (vs := [ptr b, vU32 d]) Try.func54 Try.ntmps54 (Nat.le_of_ble_eq_true rfl) rfl fun w0 F => ?_
  refine G.openS fun a c => ?_
  refine G.seq ?_
  refine G.region ?_
  refine G.yld (by decide) (Yld.assign rfl) ?_
  refine G.done ?_
  refine G.seq ?_
  refine G.region ?_
  refine G.yld (by decide) (Yld.move rfl) ?_
  refine G.yld (by decide) (Yld.nilCheck rfl) ?_
  refine G.yld (by decide) (Yld.fieldAddr Try_fo111_1 rfl) ?_
  refine G.yld (by decide) (Yld.load rfl Try.isAgg109 (by repeat (first | with_reducible exact Pick.here | with_reducible apply Pick.there)) rfl) ?_
  refine G.yld (by decide) (Yld.move rfl) ?_
  refine G.opc (by decide) (OpC.call Try.call81 rfl (search_spec a c s.rows d hsmall) (.cons (by repeat (first | with_reducible exact Pick.here | with_reducible apply Pick.there)) .nil)) fun _ => ?_
  refine G.star ?_
  refine G.lift ?_
  rintro rfl
  refine G.yld (by decide) (Yld.move rfl) ?_
  refine G.yld (by decide) (Yld.extract rfl rfl) ?_
  refine G.yld (by decide) (Yld.extract rfl rfl) ?_
  refine G.yld (by decide) (Yld.assign rfl) ?_
  refine G.yld (by decide) (Yld.assign rfl) ?_
  refine G.done ?_
  refine G.seq ?_
  refine G.region ?_
  refine G.yld (by decide) (Yld.move rfl) ?_
  refine G.yld (by decide) (Yld.assign rfl) ?_
  refine G.done ?_
  refine G.ret ?_
  refine G.ret1 (.inr rfl) Try.results54 (.tmp rfl) ?_
  exact ⟨_, (.star (.lift rfl) (entS (.pick (by repeat (first | with_reducible exact Pick.here | with_reducible apply Pick.there))) (.pick (by repeat (first | with_reducible exact Pick.here | with_reducible apply Pick.there))) rfl rfl))⟩
theorem sMove_spec (b : Nat) (s : Sp) (by_ : UInt32) (hsmall : s.rows.length < 1000000) : Sl.Spec Try.prog 71 [ptr b, vU32 by_].toArray [isS b s] (fun v => isS b (s.move by_)) := by
  refine Sl.Spec.of_body (vs := [ptr b, vU32 by_]) Try.func71 Try.ntmps71 (Nat.le_of_ble_eq_true rfl) rfl fun w0 F => ?_
  refine G.openS fun a c => ?_
  refine G.seq ?_
  refine G.region ?_
  refine G.yld (by decide) (Yld.move rfl) ?_
  refine G.yld (by decide) (Yld.nilCheck rfl) ?_
  refine G.yld (by decide) (Yld.fieldAddr Try_fo111_0 rfl) ?_
  refine G.yld (by decide) (Yld.load rfl Try.isAgg22 (by repeat (first | with_reducible exact Pick.here | with_reducible apply Pick.there)) rfl) ?_
  refine G.yld (by decide) (Yld.move rfl) ?_
  refine G.yld (by decide) (Yld.add_u32 rfl rfl) ?_
  refine G.yld (by decide) (Yld.nilCheck rfl) ?_
  refine G.yld (by decide) (Yld.fieldAddr Try_fo111_0 rfl) ?_
  refine G.op0  (OpC.storeS .zero Try.sizeOf22 rfl rfl rfl (by repeat (first | with_reducible exact Pick.here | with_reducible apply Pick.there))) fun _ => ?_
  refine G.done ?_
  refine G.seq ?_
  refine G.region ?_
  refine G.yld (by decide) (Yld.assign rfl) ?_
  refine G.done ?_
  refine G.seq ?_
  refine G.seq ?_
  refine G.region ?_
  refine G.yld (by decide) (Yld.move rfl) ?_
  refine G.yld (by decide) (Yld.nilCheck rfl) ?_
  refine G.yld (by decide) (Yld.fieldAddr Try_fo111_1 rfl) ?_
  refine G.yld (by decide) (Yld.load rfl Try.isAgg109 (by repeat (first | with_reducible exact Pick.here | with_reducible apply Pick.there)) rfl) ?_
  refine G.yld (by decide) (Yld.len_slice Try.runUnderlying109 rfl) ?_
  refine G.yld (by decide) (Yld.move rfl) ?_
  refine G.done ?_
  refine G.block ?_
  refine G.loopE (X := Nat × Option Addr × Nat) (fun x => [(0, ptr b), (1, vU32 by_), (18, .slice a s.rows.length c), (19, vI s.rows.length), (20, vI x.1), (4, .slice x.2.1 (movK s.rows by_ x.1).length x.2.2)]) (fun x => [lift (x.1 ≤ s.rows.length), cel true b 111 [vU32 (s.mark + by_), .slice a s.rows.length c], sl true 2 (.slice a s.rows.length c) s.rows.length (rowc s.rows), sl true 2 (.slice x.2.1 (movK s.rows by_ x.1).length x.2.2) (movK s.rows by_ x.1).length (rowc (movK s.rows by_ x.1))]) (fun x => s.rows.length - x.1) (0, none, 0) (.cons (t := 0) rfl (.cons (t := 1) rfl (.cons (t := 18) rfl (.cons (t := 19) rfl (.cons (t := 20) rfl (.cons (t := 4) rfl .nil)))))) (.cons (.lift (Nat.zero_le _)) (.cons (.pick (A := cel true b 111 _) (by repeat (first | with_reducible exact Pick.here | with_reducible apply Pick.there))) (.cons (.pick (A := sl true 2 (.slice a _ _) _ _) (by repeat (first | with_reducible exact Pick.here | with_reducible apply Pick.there))) (.cons (.imp .emp fun _ _ => sl_nil) .nil)))) fun ⟨i, aw, cw⟩ => ?_
  refine G.lift fun hi => ?_
  simp only at hi
  refine G.seq ?_
  refine G.region ?_
  refine G.yld (by decide) (Yld.lss_i rfl rfl) ?_
  refine G.done ?_
  refine G.seq ?_
  refine G.condP rfl (fun hlt => ?_) (fun hlt => ?_)
  · have hi2 : i < s.rows.length := by simpa using hlt
    obtain ⟨r, hr⟩ : ∃ r, s.rows[i]? = some r := ⟨_, rAt_get hi2⟩
    refine G.skip ?_
    refine G.seq ?_
    refine G.block ?_
    refine G.seq ?_
    refine G.region ?_
    refine G.yld (by decide) (Yld.indexE Try.runUnderlying109 Try.sizeOf121 rfl rfl (by repeat (first | with_reducible exact Pick.here | with_reducible apply Pick.there)) (by decide) (by omega) (by omega)) ?_
    refine G.yld (by decide) (Yld.loadAggE (us := (rowv r)) Try.isAgg121 Try.sizeOf121 rfl (by repeat (first | with_reducible exact Pick.here | with_reducible apply Pick.there)) rfl (by decide) (by simp only [Int.toNat_natCast]; exact rowc_at hr)) ?_
    refine G.opc (by decide) (OpC.alloc (cs := [.int .u32 0, .int .u32 0]) Try.zeroValue121 rfl) fun b1 => ?_
    refine G.op0  (OpC.storeAgg (k := 2) Try.sizeOf121 rfl rfl rfl rfl (by repeat (first | with_reducible exact Pick.here | with_reducible apply Pick.there)) (setWhole rfl) (Nat.le_of_ble_eq_true rfl)) fun _ => ?_
    refine G.done ?_
    refine G.seq ?_
    refine G.region ?_
    refine G.yld (by decide) (Yld.fieldAddr Try_fo121_1 rfl) ?_
    refine G.yld (by decide) (Yld.load rfl Try.isAgg22 (by repeat (first | with_reducible exact Pick.here | with_reducible apply Pick.there)) rfl) ?_
    refine G.yld (by decide) (Yld.move rfl) ?_
    refine G.yld (by decide) (Yld.gtr_u32 rfl rfl) ?_
    refine G.done ?_
    refine G.condP rfl (fun hc => ?_) (fun hc => ?_)
    · have hk := movK_yes hr hc
      have hl := movK_len s.rows by_ i
      refine G.region ?_
      refine G.yld (by decide) (Yld.move rfl) ?_
      refine G.yld (by decide) (Yld.fieldAddr Try_fo121_0 rfl) ?_
      refine G.yld (by decide) (Yld.load rfl Try.isAgg22 (by repeat (first | with_reducible exact Pick.here | with_reducible apply Pick.there)) rfl) ?_
      refine G.yld (by decide) (Yld.move rfl) ?_
      refine G.yld (by decide) (Yld.add_u32 (b := (1 : UInt32)) rfl rfl) ?_
      refine G.yld (by decide) (Yld.max_u32 rfl rfl) ?_
      refine G.yld (by decide) (Yld.move rfl) ?_
      refine G.yld (by decide) (Yld.sub_u32 rfl rfl) ?_
      refine G.yld (by decide) (Yld.fieldAddr Try_fo121_1 rfl) ?_
      refine G.yld (by decide) (Yld.load rfl Try.isAgg22 (by repeat (first | with_reducible exact Pick.here | with_reducible apply Pick.there)) rfl) ?_
      refine G.yld (by decide) (Yld.move rfl) ?_
      refine G.yld (by decide) (Yld.sub_u32 rfl rfl) ?_
      refine G.yld (by decide) (Yld.buildS (cs := [_, _]) Try_z121 Try_pl121 rfl rfl (.cons rfl rfl (Nat.le_of_ble_eq_true rfl) (.cons rfl rfl (Nat.le_of_ble_eq_true rfl) .nil)) rfl) ?_
      refine G.opc (by decide) (OpC.buildOne (cs := [_, _]) Try.runUnderlying109 Try.sizeOf121 Try.zeroValue121 rfl rfl rfl rfl (by decide)) fun bs => ?_
      refine G.fold (A := sl true 2 (.slice (some ⟨bs, 0, none⟩) 1 1) 1 (rowv (movR by_ r))) (.imp (.pick (A := cel _ bs _ _) (by repeat (first | with_reducible exact Pick.here | with_reducible apply Pick.there))) (fun r h => sl_row (k := 2) (n := 1) rfl r (by exact h))) ?_
      refine G.opc (by decide) (OpC.appendE (kk := 2) (bytes := 8) Try.underlying109 Try.type121 rfl rfl rfl rfl rfl Try.underlying109 rfl rfl (show Pick _ (sl true 2 (.slice aw _ _) _ _) _ from by repeat (first | with_reducible exact Pick.here | with_reducible apply Pick.there)) (by repeat (first | with_reducible exact Pick.here | with_reducible apply Pick.there)) rfl (room_of _ _ (by decide) (by simp only; omega)) rfl (rowc_snoc _ _)) fun vw => ?_
      refine G.slv fun aw2 cw2 hvw hlw hcw => ?_
      subst hvw
      refine G.yld (by decide) (Yld.assign rfl) ?_
      refine G.done ?_
      refine G.nil ?_
      refine G.x_block (G.x_then ?_)
      refine G.region ?_
      refine G.yld (by decide) (Yld.add_i (b := (1 : Int)) rfl rfl (by omega)) ?_
      refine G.yld (by decide) (Yld.move rfl) ?_
      refine G.done ?_
      refine G.nil ?_
      refine G.x_then ?_
      exact G.againE (i + 1, aw2, cw2) (by simp only; omega) (.cons (t := 0) rfl (.cons (t := 1) rfl (.cons (t := 18) rfl (.cons (t := 19) rfl (.cons (t := 20) rfl (.as (t := 4) rfl (by simp only; rw [hk]; simp) .nil)))))) (.cons (.lift (by simp only; omega)) (.cons (.pick (A := cel true b 111 _) (by repeat (first | with_reducible exact Pick.here | with_reducible apply Pick.there))) (.cons (.pick (A := sl true 2 (.slice a _ _) _ _) (by repeat (first | with_reducible exact Pick.here | with_reducible apply Pick.there))) (.cons (.imp (.pick (A := sl true 2 (.slice aw2 _ _) _ _) (by repeat (first | with_reducible exact Pick.here | with_reducible apply Pick.there))) (fun r h => by simp only; rw [hk]; simpa using h)) .nil))))
    · have hk := movK_no hr hc
      refine G.skip ?_
      refine G.nil ?_
      refine G.x_block (G.x_then ?_)
      refine G.region ?_
      refine G.yld (by decide) (Yld.add_i (b := (1 : Int)) rfl rfl (by omega)) ?_
      refine G.yld (by decide) (Yld.move rfl) ?_
      refine G.done ?_
      refine G.nil ?_
      refine G.x_then ?_
      exact G.againE (i + 1, aw, cw) (by simp only; omega) (.cons (t := 0) rfl (.cons (t := 1) rfl (.cons (t := 18) rfl (.cons (t := 19) rfl (.cons (t := 20) rfl (.as (t := 4) rfl (by simp only; rw [hk]) .nil)))))) (.cons (.lift (by simp only; omega)) (.cons (.pick (A := cel true b 111 _) (by repeat (first | with_reducible exact Pick.here | with_reducible apply Pick.there))) (.cons (.pick (A := sl true 2 (.slice a _ _) _ _) (by repeat (first | with_reducible exact Pick.here | with_reducible apply Pick.there))) (.cons (.imp (.pick (A := sl true 2 (.slice aw _ _) _ _) (by repeat (first | with_reducible exact Pick.here | with_reducible apply Pick.there))) (fun r h => by simp only; rw [hk]; exact h)) .nil))))
  · have hi2 : i = s.rows.length := by simp only at hlt; omega
    subst hi2
    refine G.exit ?_
    refine G.x_exit_then (G.x_exit_then ?_)
    refine G.x_exit_block (G.x_then ?_)
    refine G.unframe (by repeat (first | exact App.nil | apply App.cons)) ?_
    refine G.region ?_
    refine G.yld (by decide) (Yld.move rfl) ?_
    refine G.yld (by decide) (Yld.move rfl) ?_
    refine G.yld (by decide) (Yld.nilCheck rfl) ?_
    refine G.yld (by decide) (Yld.fieldAddr Try_fo111_1 rfl) ?_
    refine G.op0  (OpC.storeS (.succ .zero) Try.sizeOf109 rfl rfl rfl (by repeat (first | with_reducible exact Pick.here | with_reducible apply Pick.there))) fun _ => ?_
    refine G.done ?_
    refine G.nil ?_
    refine G.ret0 (.inl rfl) Try.results71 ?_
    exact ⟨_, (entS (s := s.move by_) (.imp (.pick (A := cel true b 111 _) (by repeat (first | with_reducible exact Pick.here | with_reducible apply Pick.there))) (fun q h => by exact h)) (.imp (.pick (A := sl true 2 (.slice aw _ _) _ _) (by repeat (first | with_reducible exact Pick.here | with_reducible apply Pick.there))) (fun q h => by exact h)) (by simp only [Sp.move, movK_all]) (by simp only [Sp.move, movK_all]))⟩
theorem sSettle_spec (b : Nat) (s : Sp) (hsmall : s.rows.length < 1000000) : Sl.Spec Try.prog 57 [ptr b].toArray [isS b s] (fun v => isS b s.settle) := by
  refine Sl.Spec.of_body (vs := [ptr b]) Try.func57 Try.ntmps57 (Nat.le_of_ble_eq_true rfl) rfl fun w0 F => ?_
  refine G.openS fun a c => ?_
  refine G.seq ?_
  refine G.cutB (t := 17) (v := .bool (decide (opens1 s.rows))) (.cons (t := 0) rfl .nil) ?_ ?_
  · refine G.region ?_
    refine G.yld (by decide) (Yld.move rfl) ?_
    refine G.yld (by decide) (Yld.nilCheck rfl) ?_
    refine G.yld (by decide) (Yld.fieldAddr Try_fo111_1 rfl) ?_
    refine G.yld (by decide) (Yld.load rfl Try.isAgg109 (by repeat (first | with_reducible exact Pick.here | with_reducible apply Pick.there)) rfl) ?_
    refine G.yld (by decide) (Yld.len_slice Try.runUnderlying109 rfl) ?_
    refine G.yld (by decide) (Yld.gtr_i (b := (0 : Int)) rfl rfl) ?_
    refine G.yld (by decide) (Yld.move rfl) ?_
    refine G.splitB (t := 8) rfl (fun h1 => ?_) (fun h1 => ?_)
    · refine G.yldG (by decide) rfl rfl (Yld.move rfl) ?_
      refine G.yldG (by decide) rfl rfl (Yld.nilCheck rfl) ?_
      refine G.yldG (by decide) rfl rfl (Yld.fieldAddr Try_fo111_1 rfl) ?_
      refine G.yldG (by decide) rfl rfl (Yld.load rfl Try.isAgg109 (by repeat (first | with_reducible exact Pick.here | with_reducible apply Pick.there)) rfl) ?_
      refine G.yldG (by decide) rfl rfl (Yld.indexE Try.runUnderlying109 Try.sizeOf121 rfl rfl (by repeat (first | with_reducible exact Pick.here | with_reducible apply Pick.there)) (by decide) (by omega) (by omega)) ?_
      refine G.yldG (by decide) rfl rfl (Yld.fieldE Try_fo121_0 rfl (by repeat (first | with_reducible exact Pick.here | with_reducible apply Pick.there)) (by rw [rowc_length]; simp only [Int.toNat_zero]; omega)) ?_
      refine G.yldG (by decide) rfl rfl (Yld.loadE (v := vU32 (rAt s.rows 0).1) Try.isAgg22 rfl (by repeat (first | with_reducible exact Pick.here | with_reducible apply Pick.there)) (rowc_1 (by omega))) ?_
      refine G.yldG (by decide) rfl rfl (Yld.eql_u32 (b := (1 : UInt32)) rfl rfl) ?_
      refine G.yld (by decide) (Yld.pickT rfl rfl) ?_
      refine G.done ?_
      refine G.nil ?_
      exact G.cutEnd (.as (t := 17) rfl (congrArg Value.bool (by first | (rw [decide_eq_decide]; exact ⟨fun h => ⟨by omega, h⟩, fun h => h.2⟩) | (rw [eq_comm, decide_eq_false_iff_not]; intro h; have h2 := h.1; omega))) (.cons (t := 0) rfl .nil)) (Picks.refl _)
    · refine G.skipG (by decide) rfl rfl rfl ?_
      refine G.skipG (by decide) rfl rfl rfl ?_
      refine G.skipG (by decide) rfl rfl rfl ?_
      refine G.skipG (by decide) rfl rfl rfl ?_
      refine G.skipG (by decide) rfl rfl rfl ?_
      refine G.skipG (by decide) rfl rfl rfl ?_
      refine G.skipG (by decide) rfl rfl rfl ?_
      refine G.skipG (by decide) rfl rfl rfl ?_
      refine G.yld (by decide) (Yld.pickF rfl rfl) ?_
      refine G.done ?_
      refine G.nil ?_
      exact G.cutEnd (.as (t := 17) rfl (congrArg Value.bool (by first | (rw [decide_eq_decide]; exact ⟨fun h => ⟨by omega, h⟩, fun h => h.2⟩) | (rw [eq_comm, decide_eq_false_iff_not]; intro h; have h2 := h.1; omega))) (.cons (t := 0) rfl .nil)) (Picks.refl _)
  refine G.condP rfl (fun ho => ?_) (fun ho => ?_)
  · refine G.region ?_
    refine G.yld (by decide) (Yld.move rfl) ?_
    refine G.yld (by decide) (Yld.move rfl) ?_
    refine G.yld (by decide) (Yld.nilCheck rfl) ?_
    refine G.yld (by decide) (Yld.fieldAddr Try_fo111_1 rfl) ?_
    refine G.yld (by decide) (Yld.load rfl Try.isAgg109 (by repeat (first | with_reducible exact Pick.here | with_reducible apply Pick.there)) rfl) ?_
    refine G.yld (by decide) (Yld.indexE Try.runUnderlying109 Try.sizeOf121 rfl rfl (by repeat (first | with_reducible exact Pick.here | with_reducible apply Pick.there)) (by decide) (by omega) (by have := ho.1; omega)) ?_
    refine G.yld (by decide) (Yld.fieldE Try_fo121_1 rfl (by repeat (first | with_reducible exact Pick.here | with_reducible apply Pick.there)) (by rw [rowc_length]; have := ho.1; simp only [Int.toNat_zero]; omega)) ?_
    refine G.yld (by decide) (Yld.loadE (v := vU32 (rAt s.rows 0).2) Try.isAgg22 rfl (by repeat (first | with_reducible exact Pick.here | with_reducible apply Pick.there)) (rowc_2 ho.1)) ?_
    refine G.fold (A := isS b s) (entS (.pick (by repeat (first | with_reducible exact Pick.here | with_reducible apply Pick.there))) (.pick (by repeat (first | with_reducible exact Pick.here | with_reducible apply Pick.there))) rfl rfl) ?_
    refine G.opc (by decide) (OpC.call Try.call71 rfl (sMove_spec b s (rAt s.rows 0).2 hsmall) (.cons (by repeat (first | with_reducible exact Pick.here | with_reducible apply Pick.there)) .nil)) fun _ => ?_
    refine G.done ?_
    refine G.nil ?_
    refine G.ret0 (.inl rfl) Try.results57 ?_
    exact ⟨_, (.imp (.pick (by repeat (first | with_reducible exact Pick.here | with_reducible apply Pick.there))) (fun q h => by simp only [Sp.settle, if_pos ho]; exact h))⟩
  · refine G.skip ?_
    refine G.nil ?_
    refine G.ret0 (.inl rfl) Try.results57 ?_
    exact ⟨_, (by simp only [Sp.settle, if_neg ho]; exact (entS (.pick (by repeat (first | with_reducible exact Pick.here | with_reducible apply Pick.there))) (.pick (by repeat (first | with_reducible exact Pick.here | with_reducible apply Pick.there))) rfl rfl))⟩
end Go.Fl
