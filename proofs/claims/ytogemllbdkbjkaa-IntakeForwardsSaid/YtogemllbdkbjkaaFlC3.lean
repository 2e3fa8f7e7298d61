/- Contracts, printed by a program of mine and proved by Lean. -/
import Derived.Test.YtogemllbdkbjkaaFlC2
set_option linter.unusedVariables false
set_option linter.unusedSimpArgs false
namespace Go.Fl
open Go Go.Sl Go.Proofs
set_option maxRecDepth 10000
set_option linter.unusedVariables false
theorem sHas_spec (b : Nat) (s : Sp) (t : UInt32) (hsmall : s.rows.length < 1000000) : Sl.Spec Try.prog 29 [ptr b, vU32 t].toArray [isS b s] (fun v => star (lift (v = .bool (s.has t))) (isS b s)) := by
  refine Sl.Spec.of_body (vs := [ptr b, vU32 t]) Try.func29 Try.ntmps29 (Nat.le_of_ble_eq_true rfl) rfl fun w0 F => ?_
  refine G.openS fun a c => ?_
  refine G.seq ?_
  refine G.region ?_
  refine G.yld (by decide) (Yld.assign rfl) ?_
  refine G.done ?_
  refine G.seq ?_
  refine G.seq ?_
  refine G.region ?_
  refine G.yld (by decide) (Yld.move rfl) ?_
  refine G.yld (by decide) (Yld.nilCheck rfl) ?_
  refine G.yld (by decide) (Yld.fieldAddr Try_fo111_0 rfl) ?_
  refine G.yld (by decide) (Yld.load rfl Try.isAgg22 (by repeat (first | with_reducible exact Pick.here | with_reducible apply Pick.there)) rfl) ?_
  refine G.yld (by decide) (Yld.move rfl) ?_
  refine G.opc (by decide) (OpC.call Try.call28 rfl (less_spec _ _) .nil) fun v => ?_
  refine G.lift ?_
  rintro rfl
  refine G.yld (by decide) (Yld.not rfl) ?_
  refine G.done ?_
  refine G.cond rfl (fun hl => ?_) (fun hl => ?_)
  · have hl2 : less s.mark t = false := by simpa using hl
    by_cases ht : t = s.mark
    · refine G.seq ?_
      refine G.region ?_
      refine G.yld (by decide) (Yld.move rfl) ?_
      refine G.yld (by decide) (Yld.move rfl) ?_
      refine G.yld (by decide) (Yld.nilCheck rfl) ?_
      refine G.yld (by decide) (Yld.fieldAddr Try_fo111_0 rfl) ?_
      refine G.yld (by decide) (Yld.load rfl Try.isAgg22 (by repeat (first | with_reducible exact Pick.here | with_reducible apply Pick.there)) rfl) ?_
      refine G.yld (by decide) (Yld.eql_u32 rfl rfl) ?_
      refine G.as (t := 19) (v := .bool true) rfl (congrArg Value.bool (decide_eq_true ht)) ?_
      refine G.yld (by decide) (Yld.move rfl) ?_
      refine G.skipG (by decide) rfl rfl rfl ?_
      refine G.skipG (by decide) rfl rfl rfl ?_
      refine G.skipG (by decide) rfl rfl rfl ?_
      refine G.skipG (by decide) rfl rfl rfl ?_
      refine G.skipG (by decide) rfl rfl rfl ?_
      refine G.skipG (by decide) rfl rfl rfl ?_
      refine G.yld (by decide) (Yld.pickT rfl rfl) ?_
      refine G.yld (by decide) (Yld.assign rfl) ?_
      refine G.done ?_
      refine G.ret ?_
      refine G.ret1 (.inr rfl) Try.results29 (.tmp rfl) ?_
      exact ⟨_, (.star (.lift (by rw [has_back hl2]; simp [ht])) (entS (.pick (by repeat (first | with_reducible exact Pick.here | with_reducible apply Pick.there))) (.pick (by repeat (first | with_reducible exact Pick.here | with_reducible apply Pick.there))) rfl rfl))⟩
    · refine G.seq ?_
      refine G.region ?_
      refine G.yld (by decide) (Yld.move rfl) ?_
      refine G.yld (by decide) (Yld.move rfl) ?_
      refine G.yld (by decide) (Yld.nilCheck rfl) ?_
      refine G.yld (by decide) (Yld.fieldAddr Try_fo111_0 rfl) ?_
      refine G.yld (by decide) (Yld.load rfl Try.isAgg22 (by repeat (first | with_reducible exact Pick.here | with_reducible apply Pick.there)) rfl) ?_
      refine G.yld (by decide) (Yld.eql_u32 rfl rfl) ?_
      refine G.as (t := 19) (v := .bool false) rfl (congrArg Value.bool (decide_eq_false ht)) ?_
      refine G.yld (by decide) (Yld.move rfl) ?_
      refine G.yldG (by decide) rfl rfl (Yld.move rfl) ?_
      refine G.yldG (by decide) rfl rfl (Yld.move rfl) ?_
      refine G.yldG (by decide) rfl rfl (Yld.nilCheck rfl) ?_
      refine G.yldG (by decide) rfl rfl (Yld.fieldAddr Try_fo111_0 rfl) ?_
      refine G.yldG (by decide) rfl rfl (Yld.load rfl Try.isAgg22 (by repeat (first | with_reducible exact Pick.here | with_reducible apply Pick.there)) rfl) ?_
      refine G.opG (by decide) rfl rfl (OpC.call Try.call28 rfl (less_spec _ _) .nil) fun v => ?_
      refine G.lift ?_
      rintro rfl
      refine G.yld (by decide) (Yld.pickF rfl rfl) ?_
      refine G.yld (by decide) (Yld.assign rfl) ?_
      refine G.done ?_
      refine G.ret ?_
      refine G.ret1 (.inr rfl) Try.results29 (.tmp rfl) ?_
      exact ⟨_, (.star (.lift (by rw [has_back hl2]; simp [ht])) (entS (.pick (by repeat (first | with_reducible exact Pick.here | with_reducible apply Pick.there))) (.pick (by repeat (first | with_reducible exact Pick.here | with_reducible apply Pick.there))) rfl rfl))⟩
  · have hl2 : less s.mark t = true := by simpa using hl
    refine G.skip ?_
    refine G.seq ?_
    refine G.region ?_
    refine G.yld (by decide) (Yld.move rfl) ?_
    refine G.yld (by decide) (Yld.nilCheck rfl) ?_
    refine G.yld (by decide) (Yld.fieldAddr Try_fo111_0 rfl) ?_
    refine G.yld (by decide) (Yld.load rfl Try.isAgg22 (by repeat (first | with_reducible exact Pick.here | with_reducible apply Pick.there)) rfl) ?_
    refine G.yld (by decide) (Yld.move rfl) ?_
    refine G.opc (by decide) (OpC.call Try.call26 rfl (dist_spec _ _) .nil) fun v => ?_
    refine G.lift ?_
    rintro rfl
    refine G.yld (by decide) (Yld.assign rfl) ?_
    refine G.done ?_
    refine G.seq ?_
    refine G.fold (A := isS b s) (entS (.pick (by repeat (first | with_reducible exact Pick.here | with_reducible apply Pick.there))) (.pick (by repeat (first | with_reducible exact Pick.here | with_reducible apply Pick.there))) rfl rfl) ?_
    refine G.region ?_
    refine G.yld (by decide) (Yld.move rfl) ?_
    refine G.yld (by decide) (Yld.move rfl) ?_
    refine G.opc (by decide) (OpC.call Try.call54 rfl (sAt_spec b s (dist s.mark t) hsmall) (.cons (by repeat (first | with_reducible exact Pick.here | with_reducible apply Pick.there)) .nil)) fun _ => ?_
    refine G.star ?_
    refine G.lift ?_
    rintro rfl
    refine G.openS fun a c => ?_
    refine G.yld (by decide) (Yld.assign rfl) ?_
    have hle := atS_le s.rows (dist s.mark t)
    obtain ⟨i, hi⟩ : ∃ i, atS s.rows (dist s.mark t) = i := ⟨_, rfl⟩
    rw [hi] at hle ⊢
    refine G.done ?_
    refine G.seq ?_
    refine G.cutB (t := 4) (v := .bool (decide (hasAt s.rows i (dist s.mark t)))) .nil ?_ ?_
    · refine G.region ?_
      refine G.yld (by decide) (Yld.move rfl) ?_
      refine G.yld (by decide) (Yld.move rfl) ?_
      refine G.yld (by decide) (Yld.nilCheck rfl) ?_
      refine G.yld (by decide) (Yld.fieldAddr Try_fo111_1 rfl) ?_
      refine G.yld (by decide) (Yld.load rfl Try.isAgg109 (by repeat (first | with_reducible exact Pick.here | with_reducible apply Pick.there)) rfl) ?_
      refine G.yld (by decide) (Yld.len_slice Try.runUnderlying109 rfl) ?_
      refine G.yld (by decide) (Yld.lss_i rfl rfl) ?_
      refine G.yld (by decide) (Yld.move rfl) ?_
      refine G.splitB (t := 44) rfl (fun h1 => ?_) (fun h1 => ?_)
      · refine G.yldG (by decide) rfl rfl (Yld.move rfl) ?_
        refine G.yldG (by decide) rfl rfl (Yld.nilCheck rfl) ?_
        refine G.yldG (by decide) rfl rfl (Yld.fieldAddr Try_fo111_1 rfl) ?_
        refine G.yldG (by decide) rfl rfl (Yld.load rfl Try.isAgg109 (by repeat (first | with_reducible exact Pick.here | with_reducible apply Pick.there)) rfl) ?_
        refine G.yldG (by decide) rfl rfl (Yld.move rfl) ?_
        refine G.yldG (by decide) rfl rfl (Yld.indexE Try.runUnderlying109 Try.sizeOf121 rfl rfl (by repeat (first | with_reducible exact Pick.here | with_reducible apply Pick.there)) (by decide) (by omega) (by omega)) ?_
        refine G.yldG (by decide) rfl rfl (Yld.fieldE Try_fo121_0 rfl (by repeat (first | with_reducible exact Pick.here | with_reducible apply Pick.there)) (by rw [rowc_length]; simp only [Int.toNat_natCast]; omega)) ?_
        refine G.yldG (by decide) rfl rfl (Yld.loadE (v := vU32 (rAt s.rows i).1) Try.isAgg22 rfl (by repeat (first | with_reducible exact Pick.here | with_reducible apply Pick.there)) (by simp only [Int.toNat_natCast]; exact rowc_1 (by omega))) ?_
        refine G.yldG (by decide) rfl rfl (Yld.move rfl) ?_
        refine G.yldG (by decide) rfl rfl (Yld.leq_u32 rfl rfl) ?_
        refine G.yld (by decide) (Yld.pickT rfl rfl) ?_
        refine G.yld (by decide) (Yld.assign rfl) ?_
        refine G.done ?_
        refine G.nil ?_
        exact G.cutEnd (.as (t := 4) rfl (congrArg Value.bool (by first | (rw [decide_eq_decide]; exact ⟨fun h => ⟨by omega, h⟩, fun h => h.2⟩) | (rw [eq_comm, decide_eq_false_iff_not]; intro h; have h2 := h.1; omega))) .nil) (Picks.refl _)
      · refine G.skipG (by decide) rfl rfl rfl ?_
        refine G.skipG (by decide) rfl rfl rfl ?_
        refine G.skipG (by decide) rfl rfl rfl ?_
        refine G.skipG (by decide) rfl rfl rfl ?_
        refine G.skipG (by decide) rfl rfl rfl ?_
        refine G.skipG (by decide) rfl rfl rfl ?_
        refine G.skipG (by decide) rfl rfl rfl ?_
        refine G.skipG (by decide) rfl rfl rfl ?_
        refine G.skipG (by decide) rfl rfl rfl ?_
        refine G.skipG (by decide) rfl rfl rfl ?_
        refine G.yld (by decide) (Yld.pickF rfl rfl) ?_
        refine G.yld (by decide) (Yld.assign rfl) ?_
        refine G.done ?_
        refine G.nil ?_
        exact G.cutEnd (.as (t := 4) rfl (congrArg Value.bool (by first | (rw [decide_eq_decide]; exact ⟨fun h => ⟨by omega, h⟩, fun h => h.2⟩) | (rw [eq_comm, decide_eq_false_iff_not]; intro h; have h2 := h.1; omega))) .nil) (Picks.refl _)
    refine G.ret ?_
    refine G.ret1 (.inr rfl) Try.results29 (.tmp rfl) ?_
    exact ⟨_, (.star (.lift (by rw [has_on hl2 hi])) (entS (.pick (by repeat (first | with_reducible exact Pick.here | with_reducible apply Pick.there))) (.pick (by repeat (first | with_reducible exact Pick.here | with_reducible apply Pick.there))) rfl rfl))⟩
theorem sSkip_spec (b : Nat) (s : Sp) (t : UInt32) (hsmall : s.rows.length < 1000000) : Sl.Spec Try.prog 35 [ptr b, vU32 t].toArray [isS b s] (fun v => star (lift (v = .bool (s.skip t).1)) (isS b (s.skip t).2)) := by
  refine Sl.Spec.of_body (vs := [ptr b, vU32 t]) Try.func35 Try.ntmps35 (Nat.le_of_ble_eq_true rfl) rfl fun w0 F => ?_
  refine G.openS fun a c => ?_
  refine G.seq ?_
  refine G.region ?_
  refine G.yld (by decide) (Yld.assign rfl) ?_
  refine G.done ?_
  refine G.seq ?_
  refine G.seq ?_
  refine G.region ?_
  refine G.yld (by decide) (Yld.move rfl) ?_
  refine G.yld (by decide) (Yld.nilCheck rfl) ?_
  refine G.yld (by decide) (Yld.fieldAddr Try_fo111_0 rfl) ?_
  refine G.yld (by decide) (Yld.load rfl Try.isAgg22 (by repeat (first | with_reducible exact Pick.here | with_reducible apply Pick.there)) rfl) ?_
  refine G.yld (by decide) (Yld.move rfl) ?_
  refine G.opc (by decide) (OpC.call Try.call28 rfl (less_spec _ _) .nil) fun v => ?_
  refine G.lift ?_
  rintro rfl
  refine G.yld (by decide) (Yld.not rfl) ?_
  refine G.done ?_
  refine G.cond rfl (fun hl => ?_) (fun hl => ?_)
  · have hl2 : less s.mark t = false := by simpa using hl
    refine G.seq ?_
    refine G.region ?_
    refine G.yld (by decide) (Yld.assign rfl) ?_
    refine G.done ?_
    refine G.ret ?_
    refine G.ret1 (.inr rfl) Try.results35 (.tmp rfl) ?_
    exact ⟨_, (by rw [skip_back hl2]; exact (.star (.lift rfl) (entS (.pick (by repeat (first | with_reducible exact Pick.here | with_reducible apply Pick.there))) (.pick (by repeat (first | with_reducible exact Pick.here | with_reducible apply Pick.there))) rfl rfl)))⟩
  · have hl2 : less s.mark t = true := by simpa using hl
    refine G.skip ?_
    refine G.seq ?_
    refine G.region ?_
    refine G.yld (by decide) (Yld.move rfl) ?_
    refine G.yld (by decide) (Yld.move rfl) ?_
    refine G.yld (by decide) (Yld.nilCheck rfl) ?_
    refine G.yld (by decide) (Yld.fieldAddr Try_fo111_0 rfl) ?_
    refine G.yld (by decide) (Yld.load rfl Try.isAgg22 (by repeat (first | with_reducible exact Pick.here | with_reducible apply Pick.there)) rfl) ?_
    refine G.yld (by decide) (Yld.move rfl) ?_
    refine G.opc (by decide) (OpC.call Try.call26 rfl (dist_spec _ _) .nil) fun v => ?_
    refine G.lift ?_
    rintro rfl
    refine G.fold (A := isS b s) (entS (.pick (by repeat (first | with_reducible exact Pick.here | with_reducible apply Pick.there))) (.pick (by repeat (first | with_reducible exact Pick.here | with_reducible apply Pick.there))) rfl rfl) ?_
    refine G.opc (by decide) (OpC.call Try.call71 rfl (sMove_spec b s (dist s.mark t) hsmall) (.cons (by repeat (first | with_reducible exact Pick.here | with_reducible apply Pick.there)) .nil)) fun _ => ?_
    refine G.done ?_
    refine G.seq ?_
    refine G.region ?_
    refine G.yld (by decide) (Yld.move rfl) ?_
    refine G.opc (by decide) (OpC.call Try.call57 rfl (sSettle_spec b (s.move (dist s.mark t)) (by have := movK_len s.rows (dist s.mark t) s.rows.length; rw [movK_all] at this; show ((s.rows.filter _).map _).length < _; omega)) (.cons (by repeat (first | with_reducible exact Pick.here | with_reducible apply Pick.there)) .nil)) fun _ => ?_
    refine G.done ?_
    refine G.seq ?_
    refine G.region ?_
    refine G.yld (by decide) (Yld.assign rfl) ?_
    refine G.done ?_
    refine G.ret ?_
    refine G.ret1 (.inr rfl) Try.results35 (.tmp rfl) ?_
    exact ⟨_, (by rw [skip_on hl2]; exact (.star (.lift rfl) (.pick (by repeat (first | with_reducible exact Pick.here | with_reducible apply Pick.there)))))⟩
theorem sAdd_spec (b : Nat) (s : Sp) (t : UInt32) (hsmall : s.rows.length < 100000) : Sl.Spec Try.prog 31 [ptr b, vU32 t].toArray [isS b s] (fun v => star (lift (v = vI (s.add t).1)) (isS b (s.add t).2)) := by
  refine Sl.Spec.of_body (vs := [ptr b, vU32 t]) Try.func31 Try.ntmps31 (Nat.le_of_ble_eq_true rfl) rfl fun w0 F => ?_
  refine G.openS fun a c => ?_
  refine G.seq ?_
  refine G.region ?_
  refine G.yld (by decide) (Yld.assign rfl) ?_
  refine G.done ?_
  refine G.seq ?_
  refine G.seq ?_
  refine G.region ?_
  refine G.yld (by decide) (Yld.move rfl) ?_
  refine G.yld (by decide) (Yld.nilCheck rfl) ?_
  refine G.yld (by decide) (Yld.fieldAddr Try_fo111_0 rfl) ?_
  refine G.yld (by decide) (Yld.load rfl Try.isAgg22 (by repeat (first | with_reducible exact Pick.here | with_reducible apply Pick.there)) rfl) ?_
  refine G.yld (by decide) (Yld.move rfl) ?_
  refine G.opc (by decide) (OpC.call Try.call28 rfl (less_spec _ _) .nil) fun v => ?_
  refine G.lift ?_
  rintro rfl
  refine G.yld (by decide) (Yld.not rfl) ?_
  refine G.done ?_
  refine G.cond rfl (fun hl => ?_) (fun hl => ?_)
  · have hl2 : less s.mark t = false := by simpa using hl
    refine G.seq ?_
    refine G.region ?_
    refine G.yld (by decide) (Yld.assign rfl) ?_
    refine G.done ?_
    refine G.ret ?_
    refine G.ret1 (.inr rfl) Try.results31 (.tmp rfl) ?_
    exact ⟨_, (by rw [add_back hl2]; exact (.star (.lift rfl) (entS (.pick (by repeat (first | with_reducible exact Pick.here | with_reducible apply Pick.there))) (.pick (by repeat (first | with_reducible exact Pick.here | with_reducible apply Pick.there))) rfl rfl)))⟩
  · have hl2 : less s.mark t = true := by simpa using hl
    refine G.skip ?_
    refine G.seq ?_
    refine G.region ?_
    refine G.yld (by decide) (Yld.move rfl) ?_
    refine G.yld (by decide) (Yld.nilCheck rfl) ?_
    refine G.yld (by decide) (Yld.fieldAddr Try_fo111_0 rfl) ?_
    refine G.yld (by decide) (Yld.load rfl Try.isAgg22 (by repeat (first | with_reducible exact Pick.here | with_reducible apply Pick.there)) rfl) ?_
    refine G.yld (by decide) (Yld.move rfl) ?_
    refine G.opc (by decide) (OpC.call Try.call26 rfl (dist_spec _ _) .nil) fun v => ?_
    refine G.lift ?_
    rintro rfl
    refine G.yld (by decide) (Yld.assign rfl) ?_
    refine G.done ?_
    refine G.seq ?_
    refine G.seq ?_
    refine G.region ?_
    refine G.yld (by decide) (Yld.move rfl) ?_
    refine G.yld (by decide) (Yld.gtr_u32 (b := (4096 : UInt32)) rfl rfl) ?_
    refine G.done ?_
    refine G.condP rfl (fun hf => ?_) (fun hf => ?_)
    · refine G.seq ?_
      refine G.region ?_
      refine G.yld (by decide) (Yld.assign rfl) ?_
      refine G.done ?_
      refine G.ret ?_
      refine G.ret1 (.inr rfl) Try.results31 (.tmp rfl) ?_
      exact ⟨_, (by rw [add_far hl2 hf]; exact (.star (.lift rfl) (entS (.pick (by repeat (first | with_reducible exact Pick.here | with_reducible apply Pick.there))) (.pick (by repeat (first | with_reducible exact Pick.here | with_reducible apply Pick.there))) rfl rfl)))⟩
    · refine G.skip ?_
      refine G.seq ?_
      refine G.fold (A := isS b s) (entS (.pick (by repeat (first | with_reducible exact Pick.here | with_reducible apply Pick.there))) (.pick (by repeat (first | with_reducible exact Pick.here | with_reducible apply Pick.there))) rfl rfl) ?_
      refine G.region ?_
      refine G.yld (by decide) (Yld.move rfl) ?_
      refine G.yld (by decide) (Yld.move rfl) ?_
      refine G.opc (by decide) (OpC.call Try.call54 rfl (sAt_spec b s (dist s.mark t) (by omega)) (.cons (by repeat (first | with_reducible exact Pick.here | with_reducible apply Pick.there)) .nil)) fun _ => ?_
      refine G.star ?_
      refine G.lift ?_
      rintro rfl
      refine G.openS fun a c => ?_
      refine G.yld (by decide) (Yld.assign rfl) ?_
      have hle := atS_le s.rows (dist s.mark t)
      obtain ⟨i, hi⟩ : ∃ i, atS s.rows (dist s.mark t) = i := ⟨_, rfl⟩
      obtain ⟨d, hd⟩ : ∃ d, dist s.mark t = d := ⟨_, rfl⟩
      rw [hd] at hi hf
      rw [hd, hi] at hle ⊢
      refine G.done ?_
      refine G.seq ?_
      refine G.seq ?_
      refine G.cutB (t := 43) (v := .bool (decide (hasAt s.rows i d))) (.cons (t := 0) rfl (.cons (t := 4) rfl (.cons (t := 5) rfl (.cons (t := 6) rfl .nil)))) ?_ ?_
      · refine G.region ?_
        refine G.yld (by decide) (Yld.move rfl) ?_
        refine G.yld (by decide) (Yld.move rfl) ?_
        refine G.yld (by decide) (Yld.nilCheck rfl) ?_
        refine G.yld (by decide) (Yld.fieldAddr Try_fo111_1 rfl) ?_
        refine G.yld (by decide) (Yld.load rfl Try.isAgg109 (by repeat (first | with_reducible exact Pick.here | with_reducible apply Pick.there)) rfl) ?_
        refine G.yld (by decide) (Yld.len_slice Try.runUnderlying109 rfl) ?_
        refine G.yld (by decide) (Yld.lss_i rfl rfl) ?_
        refine G.yld (by decide) (Yld.move rfl) ?_
        refine G.splitB (t := 32) rfl (fun h1 => ?_) (fun h1 => ?_)
        · refine G.yldG (by decide) rfl rfl (Yld.move rfl) ?_
          refine G.yldG (by decide) rfl rfl (Yld.nilCheck rfl) ?_
          refine G.yldG (by decide) rfl rfl (Yld.fieldAddr Try_fo111_1 rfl) ?_
          refine G.yldG (by decide) rfl rfl (Yld.load rfl Try.isAgg109 (by repeat (first | with_reducible exact Pick.here | with_reducible apply Pick.there)) rfl) ?_
          refine G.yldG (by decide) rfl rfl (Yld.move rfl) ?_
          refine G.yldG (by decide) rfl rfl (Yld.indexE Try.runUnderlying109 Try.sizeOf121 rfl rfl (by repeat (first | with_reducible exact Pick.here | with_reducible apply Pick.there)) (by decide) (by omega) (by omega)) ?_
          refine G.yldG (by decide) rfl rfl (Yld.fieldE Try_fo121_0 rfl (by repeat (first | with_reducible exact Pick.here | with_reducible apply Pick.there)) (by rw [rowc_length]; simp only [Int.toNat_natCast]; omega)) ?_
          refine G.yldG (by decide) rfl rfl (Yld.loadE (v := vU32 (rAt s.rows i).1) Try.isAgg22 rfl (by repeat (first | with_reducible exact Pick.here | with_reducible apply Pick.there)) (by simp only [Int.toNat_natCast]; exact rowc_1 (by omega))) ?_
          refine G.yldG (by decide) rfl rfl (Yld.move rfl) ?_
          refine G.yldG (by decide) rfl rfl (Yld.leq_u32 rfl rfl) ?_
          refine G.yld (by decide) (Yld.pickT rfl rfl) ?_
          refine G.done ?_
          refine G.nil ?_
          exact G.cutEnd (.as (t := 43) rfl (congrArg Value.bool (by first | (rw [decide_eq_decide]; exact ⟨fun h => ⟨by omega, h⟩, fun h => h.2⟩) | (rw [eq_comm, decide_eq_false_iff_not]; intro h; have h2 := h.1; omega))) (.cons (t := 0) rfl (.cons (t := 4) rfl (.cons (t := 5) rfl (.cons (t := 6) rfl .nil))))) (Picks.refl _)
        · refine G.skipG (by decide) rfl rfl rfl ?_
          refine G.skipG (by decide) rfl rfl rfl ?_
          refine G.skipG (by decide) rfl rfl rfl ?_
          refine G.skipG (by decide) rfl rfl rfl ?_
          refine G.skipG (by decide) rfl rfl rfl ?_
          refine G.skipG (by decide) rfl rfl rfl ?_
          refine G.skipG (by decide) rfl rfl rfl ?_
          refine G.skipG (by decide) rfl rfl rfl ?_
          refine G.skipG (by decide) rfl rfl rfl ?_
          refine G.skipG (by decide) rfl rfl rfl ?_
          refine G.yld (by decide) (Yld.pickF rfl rfl) ?_
          refine G.done ?_
          refine G.nil ?_
          exact G.cutEnd (.as (t := 43) rfl (congrArg Value.bool (by first | (rw [decide_eq_decide]; exact ⟨fun h => ⟨by omega, h⟩, fun h => h.2⟩) | (rw [eq_comm, decide_eq_false_iff_not]; intro h; have h2 := h.1; omega))) (.cons (t := 0) rfl (.cons (t := 4) rfl (.cons (t := 5) rfl (.cons (t := 6) rfl .nil))))) (Picks.refl _)
      refine G.condP rfl (fun hh => ?_) (fun hh => ?_)
      · refine G.seq ?_
        refine G.region ?_
        refine G.yld (by decide) (Yld.assign rfl) ?_
        refine G.done ?_
        refine G.ret ?_
        refine G.ret1 (.inr rfl) Try.results31 (.tmp rfl) ?_
        exact ⟨_, (by rw [add_has hl2 hd hf hi hh]; exact (.star (.lift rfl) (entS (.pick (by repeat (first | with_reducible exact Pick.here | with_reducible apply Pick.there))) (.pick (by repeat (first | with_reducible exact Pick.here | with_reducible apply Pick.there))) rfl rfl)))⟩
      · refine G.skip ?_
        refine G.seq ?_
        refine G.region ?_
        refine G.yld (by decide) (Yld.move rfl) ?_
        refine G.yld (by decide) (Yld.move rfl) ?_
        refine G.yld (by decide) (Yld.nilCheck rfl) ?_
        refine G.yld (by decide) (Yld.fieldAddr Try_fo111_1 rfl) ?_
        refine G.yld (by decide) (Yld.load rfl Try.isAgg109 (by repeat (first | with_reducible exact Pick.here | with_reducible apply Pick.there)) rfl) ?_
        refine G.yld (by decide) (Yld.move rfl) ?_
        refine G.yld (by decide) (Yld.move rfl) ?_
        refine G.yld (by decide) (Yld.move rfl) ?_
        refine G.yld (by decide) (Yld.buildS (cs := [_, _]) Try_z121 Try_pl121 rfl rfl (.cons rfl rfl (Nat.le_of_ble_eq_true rfl) (.cons rfl rfl (Nat.le_of_ble_eq_true rfl) .nil)) rfl) ?_
        refine G.opc (by decide) (OpC.buildOne (cs := [_, _]) Try.runUnderlying109 Try.sizeOf121 Try.zeroValue121 rfl rfl rfl rfl (by decide)) fun vb => ?_
        refine G.opc (by decide) (OpC.call Try.call55 rfl (insert_spec a c s.rows i vb (d, d) hle (by omega)) (.cons (by repeat (first | with_reducible exact Pick.here | with_reducible apply Pick.there)) (.cons (by repeat (first | with_reducible exact Pick.here | with_reducible apply Pick.there)) .nil))) fun _ => ?_
        refine G.ex fun x => ?_
        refine G.star ?_
        refine G.lift ?_
        rintro rfl
        obtain ⟨a, c⟩ := x
        have hln := insR_length (r := (d, d)) hle
        refine G.yld (by decide) (Yld.nilCheck rfl) ?_
        refine G.yld (by decide) (Yld.fieldAddr Try_fo111_1 rfl) ?_
        refine G.op0  (OpC.storeS (.succ .zero) Try.sizeOf109 rfl rfl rfl (by repeat (first | with_reducible exact Pick.here | with_reducible apply Pick.there))) fun _ => ?_
        refine G.done ?_
        refine G.seq ?_
        refine G.seq ?_
        refine G.cutB (t := 78) (v := .bool (decide (tiesR (insR s.rows i (d, d)) i d))) (.cons (t := 0) rfl (.cons (t := 4) rfl (.cons (t := 5) rfl (.cons (t := 6) rfl .nil)))) ?_ ?_
        · refine G.region ?_
          refine G.yld (by decide) (Yld.move rfl) ?_
          refine G.yld (by decide) (Yld.add_i (b := (1 : Int)) rfl rfl (by omega)) ?_
          refine G.yld (by decide) (Yld.move rfl) ?_
          refine G.yld (by decide) (Yld.nilCheck rfl) ?_
          refine G.yld (by decide) (Yld.fieldAddr Try_fo111_1 rfl) ?_
          refine G.yld (by decide) (Yld.load rfl Try.isAgg109 (by repeat (first | with_reducible exact Pick.here | with_reducible apply Pick.there)) rfl) ?_
          refine G.yld (by decide) (Yld.len_slice Try.runUnderlying109 rfl) ?_
          refine G.yld (by decide) (Yld.lss_i rfl rfl) ?_
          refine G.yld (by decide) (Yld.move rfl) ?_
          refine G.splitB (t := 65) rfl (fun h3 => ?_) (fun h3 => ?_)
          · refine G.yldG (by decide) rfl rfl (Yld.move rfl) ?_
            refine G.yldG (by decide) rfl rfl (Yld.nilCheck rfl) ?_
            refine G.yldG (by decide) rfl rfl (Yld.fieldAddr Try_fo111_1 rfl) ?_
            refine G.yldG (by decide) rfl rfl (Yld.load rfl Try.isAgg109 (by repeat (first | with_reducible exact Pick.here | with_reducible apply Pick.there)) rfl) ?_
            refine G.yldG (by decide) rfl rfl (Yld.move rfl) ?_
            refine G.yldG (by decide) rfl rfl (Yld.add_i (b := (1 : Int)) rfl rfl (by omega)) ?_
            refine G.yldG (by decide) rfl rfl (Yld.indexE Try.runUnderlying109 Try.sizeOf121 rfl rfl (by repeat (first | with_reducible exact Pick.here | with_reducible apply Pick.there)) (by decide) (by omega) (by omega)) ?_
            refine G.yldG (by decide) rfl rfl (Yld.fieldE Try_fo121_0 rfl (by repeat (first | with_reducible exact Pick.here | with_reducible apply Pick.there)) (by rw [rowc_length, hln, show ((i : Int) + 1).toNat = i + 1 by omega]; omega)) ?_
            refine G.yldG (by decide) rfl rfl (Yld.loadE (v := vU32 (rAt (insR s.rows i (d, d)) (i + 1)).1) Try.isAgg22 rfl (by repeat (first | with_reducible exact Pick.here | with_reducible apply Pick.there)) (by rw [show ((i : Int) + 1).toNat = i + 1 by omega]; exact rowc_1 (by omega))) ?_
            refine G.yldG (by decide) rfl rfl (Yld.move rfl) ?_
            refine G.yldG (by decide) rfl rfl (Yld.add_u32 (b := (1 : UInt32)) rfl rfl) ?_
            refine G.yldG (by decide) rfl rfl (Yld.eql_u32 rfl rfl) ?_
            refine G.yld (by decide) (Yld.pickT rfl rfl) ?_
            refine G.done ?_
            refine G.nil ?_
            exact G.cutEnd (.as (t := 78) rfl (congrArg Value.bool (by first | (rw [decide_eq_decide]; exact ⟨fun h => ⟨by omega, h⟩, fun h => h.2⟩) | (rw [eq_comm, decide_eq_false_iff_not]; intro h; have h2 := h.1; omega))) (.cons (t := 0) rfl (.cons (t := 4) rfl (.cons (t := 5) rfl (.cons (t := 6) rfl .nil))))) (Picks.refl _)
          · refine G.skipG (by decide) rfl rfl rfl ?_
            refine G.skipG (by decide) rfl rfl rfl ?_
            refine G.skipG (by decide) rfl rfl rfl ?_
            refine G.skipG (by decide) rfl rfl rfl ?_
            refine G.skipG (by decide) rfl rfl rfl ?_
            refine G.skipG (by decide) rfl rfl rfl ?_
            refine G.skipG (by decide) rfl rfl rfl ?_
            refine G.skipG (by decide) rfl rfl rfl ?_
            refine G.skipG (by decide) rfl rfl rfl ?_
            refine G.skipG (by decide) rfl rfl rfl ?_
            refine G.skipG (by decide) rfl rfl rfl ?_
            refine G.skipG (by decide) rfl rfl rfl ?_
            refine G.yld (by decide) (Yld.pickF rfl rfl) ?_
            refine G.done ?_
            refine G.nil ?_
            exact G.cutEnd (.as (t := 78) rfl (congrArg Value.bool (by first | (rw [decide_eq_decide]; exact ⟨fun h => ⟨by omega, h⟩, fun h => h.2⟩) | (rw [eq_comm, decide_eq_false_iff_not]; intro h; have h2 := h.1; omega))) (.cons (t := 0) rfl (.cons (t := 4) rfl (.cons (t := 5) rfl (.cons (t := 6) rfl .nil))))) (Picks.refl _)
        refine G.cutX (X := Option Addr × Nat) (fun x => [(0, ptr b), (5, vU32 d), (6, vI i)]) (fun x => [cel true b 111 [vU32 s.mark, .slice x.1 (joinR (insR s.rows i (d, d)) i d).length x.2], sl true 2 (.slice x.1 (joinR (insR s.rows i (d, d)) i d).length x.2) (joinR (insR s.rows i (d, d)) i d).length (rowc (joinR (insR s.rows i (d, d)) i d))]) ?_ (fun x => ?_)
        · refine G.condP rfl (fun hj => ?_) (fun hj => ?_)
          · have hj1 := hj.1
            have hji : joinR (insR s.rows i (d, d)) i d = ((insR s.rows i (d, d)).set i ((rAt (insR s.rows i (d, d)) i).1, (rAt (insR s.rows i (d, d)) (i + 1)).2)).eraseIdx (i + 1) := by simp only [joinR, if_pos hj]
            have hjl : (joinR (insR s.rows i (d, d)) i d).length = s.rows.length := by rw [hji, List.length_eraseIdx_of_lt (by rw [List.length_set]; omega), List.length_set]; omega
            refine G.seq ?_
            refine G.draw Try_mixed (.still 0 (.still 1 (.still 2 (.still 3 (.still 4 (.still 5 (.still 6 (.still 7 (.still 8 (.still 9 (.still 10 (.still 11 (.still 12 (.still 13 (.still 14 (.still 15 (.loud 16 false (.done)))))))))))))))))) (by kernel_rfl) (Picks.refl _) ?_
            refine GO.yld (i := 0) rfl (by decide) (Yld.move rfl) ?_
            refine GO.yld (i := 1) rfl (by decide) (Yld.nilCheck rfl) ?_
            refine GO.yld (i := 2) rfl (by decide) (Yld.fieldAddr Try_fo111_1 rfl) ?_
            refine GO.yld (i := 3) rfl (by decide) (Yld.load rfl Try.isAgg109 (by repeat (first | with_reducible exact Pick.here | with_reducible apply Pick.there)) rfl) ?_
            refine GO.yld (i := 4) rfl (by decide) (Yld.move rfl) ?_
            refine GO.yld (i := 5) rfl (by decide) (Yld.move rfl) ?_
            refine GO.yld (i := 6) rfl (by decide) (Yld.nilCheck rfl) ?_
            refine GO.yld (i := 7) rfl (by decide) (Yld.fieldAddr Try_fo111_1 rfl) ?_
            refine GO.yld (i := 8) rfl (by decide) (Yld.load rfl Try.isAgg109 (by repeat (first | with_reducible exact Pick.here | with_reducible apply Pick.there)) rfl) ?_
            refine GO.yld (i := 9) rfl (by decide) (Yld.move rfl) ?_
            refine GO.yld (i := 10) rfl (by decide) (Yld.add_i (b := (1 : Int)) rfl rfl (by omega)) ?_
            refine GO.yld (i := 11) rfl (by decide) (Yld.indexE Try.runUnderlying109 Try.sizeOf121 rfl rfl (by repeat (first | with_reducible exact Pick.here | with_reducible apply Pick.there)) (by decide) (by omega) (by omega)) ?_
            refine GO.yld (i := 12) rfl (by decide) (Yld.fieldE Try_fo121_1 rfl (by repeat (first | with_reducible exact Pick.here | with_reducible apply Pick.there)) (by rw [rowc_length, hln, show ((i : Int) + 1).toNat = i + 1 by omega]; omega)) ?_
            refine GO.yld (i := 13) rfl (by decide) (Yld.loadE (v := vU32 (rAt (insR s.rows i (d, d)) (i + 1)).2) Try.isAgg22 rfl (by repeat (first | with_reducible exact Pick.here | with_reducible apply Pick.there)) (by rw [show ((i : Int) + 1).toNat = i + 1 by omega]; exact rowc_2 (by omega))) ?_
            refine GO.yld (i := 14) rfl (by decide) (Yld.indexE Try.runUnderlying109 Try.sizeOf121 rfl rfl (by repeat (first | with_reducible exact Pick.here | with_reducible apply Pick.there)) (by decide) (by omega) (by omega)) ?_
            refine GO.yld (i := 15) rfl (by decide) (Yld.fieldE Try_fo121_1 rfl (by repeat (first | with_reducible exact Pick.here | with_reducible apply Pick.there)) (by rw [rowc_length, hln, Int.toNat_natCast]; omega)) ?_
            refine GO.x ?_
            refine GX.op0 (i := 16) rfl  (OpC.storeE Try.sizeOf22 rfl rfl rfl (by repeat (first | with_reducible exact Pick.here | with_reducible apply Pick.there)) (by rw [rowc_length, hln, Int.toNat_natCast]; omega)) fun _ => ?_
            rw [Int.toNat_natCast, rowc_set2 (r := rAt (insR s.rows i (d, d)) i) _ (rAt_get (by omega))]
            refine GX.done ?_
            have hsl : s.rows.length + 1 = ((insR s.rows i (d, d)).set i ((rAt (insR s.rows i (d, d)) i).1, (rAt (insR s.rows i (d, d)) (i + 1)).2)).length := by rw [List.length_set, hln]
            rw [hsl]
            refine G.region ?_
            refine G.yld (by decide) (Yld.move rfl) ?_
            refine G.yld (by decide) (Yld.move rfl) ?_
            refine G.yld (by decide) (Yld.nilCheck rfl) ?_
            refine G.yld (by decide) (Yld.fieldAddr Try_fo111_1 rfl) ?_
            refine G.yld (by decide) (Yld.load rfl Try.isAgg109 (by repeat (first | with_reducible exact Pick.here | with_reducible apply Pick.there)) rfl) ?_
            refine G.yld (by decide) (Yld.move rfl) ?_
            refine G.yld (by decide) (Yld.add_i (b := (1 : Int)) rfl rfl (by omega)) ?_
            rw [show (i : Int) + 1 = ((i + 1 : Nat) : Int) by omega]
            refine G.yld (by decide) (Yld.move rfl) ?_
            refine G.yld (by decide) (Yld.add_i (b := (2 : Int)) rfl rfl (by omega)) ?_
            rw [show (i : Int) + 2 = ((i + 1 : Nat) : Int) + 1 by omega]
            refine G.opc (by decide) (OpC.call Try.call56 rfl (delete_spec a c ((insR s.rows i (d, d)).set i ((rAt (insR s.rows i (d, d)) i).1, (rAt (insR s.rows i (d, d)) (i + 1)).2)) (i + 1) (by rw [List.length_set, hln]; omega) (by rw [List.length_set, hln]; omega)) (.cons (by repeat (first | with_reducible exact Pick.here | with_reducible apply Pick.there)) .nil)) fun _ => ?_
            refine G.ex fun x => ?_
            refine G.star ?_
            refine G.lift ?_
            rintro rfl
            obtain ⟨a, c⟩ := x
            refine G.yld (by decide) (Yld.nilCheck rfl) ?_
            refine G.yld (by decide) (Yld.fieldAddr Try_fo111_1 rfl) ?_
            refine G.op0  (OpC.storeS (.succ .zero) Try.sizeOf109 rfl rfl rfl (by repeat (first | with_reducible exact Pick.here | with_reducible apply Pick.there))) fun _ => ?_
            refine G.done ?_
            refine G.nil ?_
            exact G.cutXEnd (a, c) (.cons (t := 0) rfl (.cons (t := 5) rfl (.cons (t := 6) rfl .nil))) (.cons (.imp (.pick (A := cel true b 111 _) (by repeat (first | with_reducible exact Pick.here | with_reducible apply Pick.there))) (fun q h => by simp only; rw [hjl, show s.rows.length = ((insR s.rows i (d, d)).set i ((rAt (insR s.rows i (d, d)) i).1, (rAt (insR s.rows i (d, d)) (i + 1)).2)).length - 1 by omega]; exact h)) (.cons (.imp (.pick (A := sl true 2 (.slice a _ _) _ _) (by repeat (first | with_reducible exact Pick.here | with_reducible apply Pick.there))) (fun q h => by simp only; rw [hjl, hji, show s.rows.length = ((insR s.rows i (d, d)).set i ((rAt (insR s.rows i (d, d)) i).1, (rAt (insR s.rows i (d, d)) (i + 1)).2)).length - 1 by omega]; exact h)) .nil))
          · have hji : joinR (insR s.rows i (d, d)) i d = (insR s.rows i (d, d)) := by simp only [joinR, if_neg hj]
            refine G.skip ?_
            refine G.nil ?_
            exact G.cutXEnd (a, c) (.cons (t := 0) rfl (.cons (t := 5) rfl (.cons (t := 6) rfl .nil))) (.cons (.imp (.pick (A := cel true b 111 _) (by repeat (first | with_reducible exact Pick.here | with_reducible apply Pick.there))) (fun q h => by simp only; rw [hji, hln]; exact h)) (.cons (.imp (.pick (A := sl true 2 (.slice a _ _) _ _) (by repeat (first | with_reducible exact Pick.here | with_reducible apply Pick.there))) (fun q h => by simp only; rw [hji, hln]; exact h)) .nil))
        obtain ⟨a, c⟩ := x
        simp only
        obtain ⟨R, hR⟩ : ∃ R, joinR (insR s.rows i (d, d)) i d = R := ⟨_, rfl⟩
        have hRl : i < R.length ∧ R.length ≤ s.rows.length + 1 := joined hle hR
        rw [hR]
        refine G.seq ?_
        refine G.seq ?_
        refine G.cutB (t := 122) (v := .bool (decide (tiesL R i d))) (.cons (t := 0) rfl (.cons (t := 6) rfl .nil)) ?_ ?_
        · refine G.region ?_
          refine G.yld (by decide) (Yld.move rfl) ?_
          refine G.yld (by decide) (Yld.gtr_i (b := (0 : Int)) rfl rfl) ?_
          refine G.yld (by decide) (Yld.move rfl) ?_
          refine G.splitB (t := 109) rfl (fun h4 => ?_) (fun h4 => ?_)
          · refine G.yldG (by decide) rfl rfl (Yld.move rfl) ?_
            refine G.yldG (by decide) rfl rfl (Yld.nilCheck rfl) ?_
            refine G.yldG (by decide) rfl rfl (Yld.fieldAddr Try_fo111_1 rfl) ?_
            refine G.yldG (by decide) rfl rfl (Yld.load rfl Try.isAgg109 (by repeat (first | with_reducible exact Pick.here | with_reducible apply Pick.there)) rfl) ?_
            refine G.yldG (by decide) rfl rfl (Yld.move rfl) ?_
            refine G.yldG (by decide) rfl rfl (Yld.sub_i (b := (1 : Int)) rfl rfl (by omega)) ?_
            refine G.yldG (by decide) rfl rfl (Yld.indexE Try.runUnderlying109 Try.sizeOf121 rfl rfl (by repeat (first | with_reducible exact Pick.here | with_reducible apply Pick.there)) (by decide) (by omega) (by omega)) ?_
            refine G.yldG (by decide) rfl rfl (Yld.fieldE Try_fo121_1 rfl (by repeat (first | with_reducible exact Pick.here | with_reducible apply Pick.there)) (by rw [rowc_length, show ((i : Int) - 1).toNat = i - 1 by omega]; omega)) ?_
            refine G.yldG (by decide) rfl rfl (Yld.loadE (v := vU32 (rAt R (i - 1)).2) Try.isAgg22 rfl (by repeat (first | with_reducible exact Pick.here | with_reducible apply Pick.there)) (by rw [show ((i : Int) - 1).toNat = i - 1 by omega]; exact rowc_2 (by omega))) ?_
            refine G.yldG (by decide) rfl rfl (Yld.add_u32 (b := (1 : UInt32)) rfl rfl) ?_
            refine G.yldG (by decide) rfl rfl (Yld.move rfl) ?_
            refine G.yldG (by decide) rfl rfl (Yld.eql_u32 rfl rfl) ?_
            refine G.yld (by decide) (Yld.pickT rfl rfl) ?_
            refine G.done ?_
            refine G.nil ?_
            exact G.cutEnd (.as (t := 122) rfl (congrArg Value.bool (by first | (rw [decide_eq_decide]; exact ⟨fun h => ⟨by omega, h⟩, fun h => h.2⟩) | (rw [eq_comm, decide_eq_false_iff_not]; intro h; have h2 := h.1; omega))) (.cons (t := 0) rfl (.cons (t := 6) rfl .nil))) (Picks.refl _)
          · refine G.skipG (by decide) rfl rfl rfl ?_
            refine G.skipG (by decide) rfl rfl rfl ?_
            refine G.skipG (by decide) rfl rfl rfl ?_
            refine G.skipG (by decide) rfl rfl rfl ?_
            refine G.skipG (by decide) rfl rfl rfl ?_
            refine G.skipG (by decide) rfl rfl rfl ?_
            refine G.skipG (by decide) rfl rfl rfl ?_
            refine G.skipG (by decide) rfl rfl rfl ?_
            refine G.skipG (by decide) rfl rfl rfl ?_
            refine G.skipG (by decide) rfl rfl rfl ?_
            refine G.skipG (by decide) rfl rfl rfl ?_
            refine G.skipG (by decide) rfl rfl rfl ?_
            refine G.yld (by decide) (Yld.pickF rfl rfl) ?_
            refine G.done ?_
            refine G.nil ?_
            exact G.cutEnd (.as (t := 122) rfl (congrArg Value.bool (by first | (rw [decide_eq_decide]; exact ⟨fun h => ⟨by omega, h⟩, fun h => h.2⟩) | (rw [eq_comm, decide_eq_false_iff_not]; intro h; have h2 := h.1; omega))) (.cons (t := 0) rfl (.cons (t := 6) rfl .nil))) (Picks.refl _)
        refine G.cutX (X := Option Addr × Nat) (fun x => [(0, ptr b)]) (fun x => [cel true b 111 [vU32 s.mark, .slice x.1 (joinL R i d).length x.2], sl true 2 (.slice x.1 (joinL R i d).length x.2) (joinL R i d).length (rowc (joinL R i d))]) ?_ (fun x => ?_)
        · refine G.condP rfl (fun hk => ?_) (fun hk => ?_)
          · have hk1 := hk.1
            have hki : joinL R i d = (R.set (i - 1) ((rAt R (i - 1)).1, (rAt R i).2)).eraseIdx i := by simp only [joinL, if_pos hk]
            have hkl : (joinL R i d).length = R.length - 1 := by rw [hki, List.length_eraseIdx_of_lt (by rw [List.length_set]; omega), List.length_set]
            refine G.seq ?_
            refine G.draw Try_mixed (.still 0 (.still 1 (.still 2 (.still 3 (.still 4 (.still 5 (.still 6 (.still 7 (.still 8 (.still 9 (.still 10 (.still 11 (.still 12 (.still 13 (.still 14 (.still 15 (.loud 16 false (.done)))))))))))))))))) (by kernel_rfl) (Picks.refl _) ?_
            refine GO.yld (i := 0) rfl (by decide) (Yld.move rfl) ?_
            refine GO.yld (i := 1) rfl (by decide) (Yld.nilCheck rfl) ?_
            refine GO.yld (i := 2) rfl (by decide) (Yld.fieldAddr Try_fo111_1 rfl) ?_
            refine GO.yld (i := 3) rfl (by decide) (Yld.load rfl Try.isAgg109 (by repeat (first | with_reducible exact Pick.here | with_reducible apply Pick.there)) rfl) ?_
            refine GO.yld (i := 4) rfl (by decide) (Yld.move rfl) ?_
            refine GO.yld (i := 5) rfl (by decide) (Yld.sub_i (b := (1 : Int)) rfl rfl (by omega)) ?_
            refine GO.yld (i := 6) rfl (by decide) (Yld.move rfl) ?_
            refine GO.yld (i := 7) rfl (by decide) (Yld.nilCheck rfl) ?_
            refine GO.yld (i := 8) rfl (by decide) (Yld.fieldAddr Try_fo111_1 rfl) ?_
            refine GO.yld (i := 9) rfl (by decide) (Yld.load rfl Try.isAgg109 (by repeat (first | with_reducible exact Pick.here | with_reducible apply Pick.there)) rfl) ?_
            refine GO.yld (i := 10) rfl (by decide) (Yld.move rfl) ?_
            refine GO.yld (i := 11) rfl (by decide) (Yld.indexE Try.runUnderlying109 Try.sizeOf121 rfl rfl (by repeat (first | with_reducible exact Pick.here | with_reducible apply Pick.there)) (by decide) (by omega) (by omega)) ?_
            refine GO.yld (i := 12) rfl (by decide) (Yld.fieldE Try_fo121_1 rfl (by repeat (first | with_reducible exact Pick.here | with_reducible apply Pick.there)) (by rw [rowc_length, Int.toNat_natCast]; omega)) ?_
            refine GO.yld (i := 13) rfl (by decide) (Yld.loadE (v := vU32 (rAt R i).2) Try.isAgg22 rfl (by repeat (first | with_reducible exact Pick.here | with_reducible apply Pick.there)) (by rw [Int.toNat_natCast]; exact rowc_2 (by omega))) ?_
            refine GO.yld (i := 14) rfl (by decide) (Yld.indexE Try.runUnderlying109 Try.sizeOf121 rfl rfl (by repeat (first | with_reducible exact Pick.here | with_reducible apply Pick.there)) (by decide) (by omega) (by omega)) ?_
            refine GO.yld (i := 15) rfl (by decide) (Yld.fieldE Try_fo121_1 rfl (by repeat (first | with_reducible exact Pick.here | with_reducible apply Pick.there)) (by rw [rowc_length, show ((i : Int) - 1).toNat = i - 1 by omega]; omega)) ?_
            refine GO.x ?_
            refine GX.op0 (i := 16) rfl  (OpC.storeE Try.sizeOf22 rfl rfl rfl (by repeat (first | with_reducible exact Pick.here | with_reducible apply Pick.there)) (by rw [rowc_length, show ((i : Int) - 1).toNat = i - 1 by omega]; omega)) fun _ => ?_
            rw [show ((i : Int) - 1).toNat = i - 1 by omega, rowc_set2 (r := rAt R (i - 1)) _ (rAt_get (by omega))]
            refine GX.done ?_
            have hsl : R.length = (R.set (i - 1) ((rAt R (i - 1)).1, (rAt R i).2)).length := by rw [List.length_set]
            rw [hsl]
            refine G.region ?_
            refine G.yld (by decide) (Yld.move rfl) ?_
            refine G.yld (by decide) (Yld.move rfl) ?_
            refine G.yld (by decide) (Yld.nilCheck rfl) ?_
            refine G.yld (by decide) (Yld.fieldAddr Try_fo111_1 rfl) ?_
            refine G.yld (by decide) (Yld.load rfl Try.isAgg109 (by repeat (first | with_reducible exact Pick.here | with_reducible apply Pick.there)) rfl) ?_
            refine G.yld (by decide) (Yld.move rfl) ?_
            refine G.yld (by decide) (Yld.move rfl) ?_
            refine G.yld (by decide) (Yld.add_i (b := (1 : Int)) rfl rfl (by omega)) ?_
            refine G.opc (by decide) (OpC.call Try.call56 rfl (delete_spec a c (R.set (i - 1) ((rAt R (i - 1)).1, (rAt R i).2)) i (by rw [List.length_set]; omega) (by rw [List.length_set]; omega)) (.cons (by repeat (first | with_reducible exact Pick.here | with_reducible apply Pick.there)) .nil)) fun _ => ?_
            refine G.ex fun x => ?_
            refine G.star ?_
            refine G.lift ?_
            rintro rfl
            obtain ⟨a, c⟩ := x
            refine G.yld (by decide) (Yld.nilCheck rfl) ?_
            refine G.yld (by decide) (Yld.fieldAddr Try_fo111_1 rfl) ?_
            refine G.op0  (OpC.storeS (.succ .zero) Try.sizeOf109 rfl rfl rfl (by repeat (first | with_reducible exact Pick.here | with_reducible apply Pick.there))) fun _ => ?_
            refine G.done ?_
            refine G.nil ?_
            exact G.cutXEnd (a, c) (.cons (t := 0) rfl .nil) (.cons (.imp (.pick (A := cel true b 111 _) (by repeat (first | with_reducible exact Pick.here | with_reducible apply Pick.there))) (fun q h => by simp only; rw [hkl, hsl]; exact h)) (.cons (.imp (.pick (A := sl true 2 (.slice a _ _) _ _) (by repeat (first | with_reducible exact Pick.here | with_reducible apply Pick.there))) (fun q h => by simp only; rw [hkl, hki, hsl]; exact h)) .nil))
          · have hki : joinL R i d = R := by simp only [joinL, if_neg hk]
            refine G.skip ?_
            refine G.nil ?_
            exact G.cutXEnd (a, c) (.cons (t := 0) rfl .nil) (.cons (.imp (.pick (A := cel true b 111 _) (by repeat (first | with_reducible exact Pick.here | with_reducible apply Pick.there))) (fun q h => by simp only; rw [hki]; exact h)) (.cons (.imp (.pick (A := sl true 2 (.slice a _ _) _ _) (by repeat (first | with_reducible exact Pick.here | with_reducible apply Pick.there))) (fun q h => by simp only; rw [hki]; exact h)) .nil))
        obtain ⟨a, c⟩ := x
        simp only
        have hRl2 : (joinL R i d).length ≤ R.length := joinL_len
        refine G.seq ?_
        refine G.fold (A := isS b ⟨s.mark, joinL R i d⟩) (entS (s := ⟨s.mark, joinL R i d⟩) (.pick (by repeat (first | with_reducible exact Pick.here | with_reducible apply Pick.there))) (.pick (by repeat (first | with_reducible exact Pick.here | with_reducible apply Pick.there))) rfl rfl) ?_
        refine G.region ?_
        refine G.yld (by decide) (Yld.move rfl) ?_
        refine G.opc (by decide) (OpC.call Try.call57 rfl (sSettle_spec b ⟨s.mark, joinL R i d⟩ (by simp only; omega)) (.cons (by repeat (first | with_reducible exact Pick.here | with_reducible apply Pick.there)) .nil)) fun _ => ?_
        refine G.done ?_
        refine G.seq ?_
        refine G.region ?_
        refine G.yld (by decide) (Yld.assign rfl) ?_
        refine G.done ?_
        refine G.ret ?_
        refine G.ret1 (.inr rfl) Try.results31 (.tmp rfl) ?_
        exact ⟨_, (by rw [add_new hl2 hd hf hi hh, show addR s.rows i d = joinL R i d by rw [addR, hR]]; exact (.star (.lift rfl) (.pick (by repeat (first | with_reducible exact Pick.here | with_reducible apply Pick.there)))))⟩
end Go.Fl
