/- Contracts, printed by a program of mine and proved by Lean. -/
import Derived.Test.YtogemllbdkbjkaaFlFlightF
import Derived.Test.YtogemllbdkbjkaaFlA2
set_option linter.unusedVariables false
set_option linter.unusedSimpArgs false
namespace Go.Fl
open Go Go.Sl Go.Proofs
set_option maxRecDepth 10000
set_option linter.unusedVariables false
theorem flNew_spec (a : UInt32) : Sl.Spec Try.prog 13 [vU32 a].toArray [] (fun v => ex fun b => star (lift (v = ptr b)) (isF b ⟨a - 1, [], []⟩)) := by
  refine Sl.Spec.of_body (vs := [vU32 a]) Try.func13 Try.ntmps13 (Nat.le_of_ble_eq_true rfl) rfl fun w0 F => ?_
  refine G.seq ?_
  refine G.region ?_
  refine G.yld (by decide) (Yld.assign rfl) ?_
  refine G.done ?_
  refine G.seq ?_
  refine G.region ?_
  refine G.yld (by decide) (Yld.move rfl) ?_
  refine G.yld (by decide) (Yld.sub_u32 (b := (1 : UInt32)) rfl rfl) ?_
  refine G.opc (by decide) (OpC.makeMap) fun r => ?_
  refine G.yld (by decide) (Yld.buildS (cs := [_, _, _]) Try_z87 Try_pl87 rfl rfl (.cons rfl rfl (Nat.le_of_ble_eq_true rfl) (.cons rfl rfl (Nat.le_of_ble_eq_true rfl) .nil)) rfl) ?_
  refine G.opc (by decide) (OpC.box (cs := [_, _, _]) rfl rfl) fun b => ?_
  refine G.yld (by decide) (Yld.assign rfl) ?_
  refine G.done ?_
  refine G.ret ?_
  refine G.ret1 (.inr rfl) Try.results13 (.tmp rfl) ?_
  exact ⟨_, (.ex b (.star (.lift rfl) (entF (bs := []) (.pick (by repeat (first | with_reducible exact Pick.here | with_reducible apply Pick.there))) (.imp .emp fun _ _ => sl_nil) rfl (show Ent _ emp _ from .emp) (.imp (.pick (A := pt true r (.map #[] 0)) (by repeat (first | with_reducible exact Pick.here | with_reducible apply Pick.there))) fun _ h => mapA_new h))))⟩
theorem flNext_spec (b : Nat) (f : Fm) : Sl.Spec Try.prog 37 [ptr b].toArray [isF b f] (fun v => star (lift (v = vU32 f.next)) (isF b f)) := by
  refine Sl.Spec.of_body (vs := [ptr b]) Try.func37 Try.ntmps37 (Nat.le_of_ble_eq_true rfl) rfl fun w0 F => ?_
  refine G.openF fun v bs r hlen => ?_
  refine G.pick (.there .here) (G.slv fun a cap hv hle hl => ?_)
  subst hv
  refine G.seq ?_
  refine G.region ?_
  refine G.yld (by decide) (Yld.assign rfl) ?_
  refine G.done ?_
  refine G.seq ?_
  refine G.draw Try_mixed (.still 0 (.still 1 (.still 2 (.still 3 (.still 4 (.still 5 (.still 6 (.still 7 (.still 8 (.still 9 (.still 10 (.still 11 (.still 12 (.done)))))))))))))) (by kernel_rfl) (Picks.refl _) ?_
  refine GO.yld (i := 0) rfl (by decide) (Yld.move rfl) ?_
  refine GO.yld (i := 1) rfl (by decide) (Yld.nilCheck rfl) ?_
  refine GO.yld (i := 2) rfl (by decide) (Yld.fieldAddr Try_fo87_0 rfl) ?_
  refine GO.yld (i := 3) rfl (by decide) (Yld.load rfl Try.isAgg22 (by repeat (first | with_reducible exact Pick.here | with_reducible apply Pick.there)) rfl) ?_
  refine GO.yld (i := 4) rfl (by decide) (Yld.move rfl) ?_
  refine GO.yld (i := 5) rfl (by decide) (Yld.nilCheck rfl) ?_
  refine GO.yld (i := 6) rfl (by decide) (Yld.fieldAddr Try_fo87_1 rfl) ?_
  refine GO.yld (i := 7) rfl (by decide) (Yld.load rfl Try.isAgg85 (by repeat (first | with_reducible exact Pick.here | with_reducible apply Pick.there)) rfl) ?_
  refine GO.yld (i := 8) rfl (by decide) (Yld.len_slice Try.runUnderlying85 rfl) ?_
  refine GO.yld (i := 9) rfl (by decide) (Yld.conv_i_u32 Try.runUnderlying3 Try.runUnderlying22 rfl) ?_
  refine GO.yld (i := 10) rfl (by decide) (Yld.add_u32 rfl rfl) ?_
  refine GO.yld (i := 11) rfl (by decide) (Yld.add_u32 (b := (1 : UInt32)) rfl rfl) ?_
  refine GO.yld (i := 12) rfl (by decide) (Yld.assign rfl) ?_
  refine GO.done ?_
  refine G.ret ?_
  refine G.ret1 (.inr rfl) Try.results37 (.tmp rfl) ?_
  exact ⟨_, (.star (.lift rfl) (entF (.pick (by repeat (first | with_reducible exact Pick.here | with_reducible apply Pick.there))) (.pick (by repeat (first | with_reducible exact Pick.here | with_reducible apply Pick.there))) rfl (.pick (by repeat (first | with_reducible exact Pick.here | with_reducible apply Pick.there))) (.pick (by repeat (first | with_reducible exact Pick.here | with_reducible apply Pick.there)))))⟩
theorem flMark_spec (b : Nat) (f : Fm) : Sl.Spec Try.prog 38 [ptr b].toArray [isF b f] (fun v => star (lift (v = vU32 f.mark)) (isF b f)) := by
  refine Sl.Spec.of_body (vs := [ptr b]) Try.func38 Try.ntmps38 (Nat.le_of_ble_eq_true rfl) rfl fun w0 F => ?_
  refine G.openF fun v bs r hlen => ?_
  refine G.seq ?_
  refine G.region ?_
  refine G.yld (by decide) (Yld.assign rfl) ?_
  refine G.done ?_
  refine G.seq ?_
  refine G.region ?_
  refine G.yld (by decide) (Yld.move rfl) ?_
  refine G.yld (by decide) (Yld.nilCheck rfl) ?_
  refine G.yld (by decide) (Yld.fieldAddr Try_fo87_0 rfl) ?_
  refine G.yld (by decide) (Yld.load rfl Try.isAgg22 (by repeat (first | with_reducible exact Pick.here | with_reducible apply Pick.there)) rfl) ?_
  refine G.yld (by decide) (Yld.assign rfl) ?_
  refine G.done ?_
  refine G.ret ?_
  refine G.ret1 (.inr rfl) Try.results38 (.tmp rfl) ?_
  exact ⟨_, (.star (.lift rfl) (entF (.pick (by repeat (first | with_reducible exact Pick.here | with_reducible apply Pick.there))) (.pick (by repeat (first | with_reducible exact Pick.here | with_reducible apply Pick.there))) rfl (.pick (by repeat (first | with_reducible exact Pick.here | with_reducible apply Pick.there))) (.pick (by repeat (first | with_reducible exact Pick.here | with_reducible apply Pick.there)))))⟩
theorem open_spec (b : Nat) (p : Piece) : Sl.Spec Try.prog 40 [ptr b].toArray [isP b p] (fun v => star (lift (v = .bool p.isOpen)) (isP b p)) := by
  refine Sl.Spec.of_body (vs := [ptr b]) Try.func40 Try.ntmps40 (Nat.le_of_ble_eq_true rfl) rfl fun w0 F => ?_
  refine G.ex fun bv => G.star ?_
  refine G.seq ?_
  refine G.region ?_
  refine G.yld (by decide) (Yld.assign rfl) ?_
  refine G.done ?_
  refine G.seq ?_
  refine G.region ?_
  refine G.yld (by decide) (Yld.move rfl) ?_
  refine G.yld (by decide) (Yld.nilCheck rfl) ?_
  refine G.yld (by decide) (Yld.fieldAddr Try_fo93_6 rfl) ?_
  refine G.yld (by decide) (Yld.load rfl Try.isAgg91 (by repeat (first | with_reducible exact Pick.here | with_reducible apply Pick.there)) rfl) ?_
  refine G.yld (by decide) (Yld.eql_i (b := (0 : Int)) rfl rfl) ?_
  refine G.yld (by decide) (Yld.move rfl) ?_
  refine G.splitB (t := 8) rfl (fun h => ?_) (fun h => ?_)
  · refine G.skipG (by decide) rfl rfl rfl ?_
    refine G.skipG (by decide) rfl rfl rfl ?_
    refine G.skipG (by decide) rfl rfl rfl ?_
    refine G.skipG (by decide) rfl rfl rfl ?_
    refine G.skipG (by decide) rfl rfl rfl ?_
    refine G.yld (by decide) (Yld.pickT rfl rfl) ?_
    refine G.yld (by decide) (Yld.assign rfl) ?_
    refine G.done ?_
    refine G.ret ?_
    refine G.ret1 (.inr rfl) Try.results40 (.tmp rfl) ?_
    exact ⟨_, (.star (.lift (by simp [Piece.isOpen, h])) (.ex bv (.star (.pick (by repeat (first | with_reducible exact Pick.here | with_reducible apply Pick.there))) (.pick (by repeat (first | with_reducible exact Pick.here | with_reducible apply Pick.there))))))⟩
  · refine G.yldG (by decide) rfl rfl (Yld.move rfl) ?_
    refine G.yldG (by decide) rfl rfl (Yld.nilCheck rfl) ?_
    refine G.yldG (by decide) rfl rfl (Yld.fieldAddr Try_fo93_6 rfl) ?_
    refine G.yldG (by decide) rfl rfl (Yld.load rfl Try.isAgg91 (by repeat (first | with_reducible exact Pick.here | with_reducible apply Pick.there)) rfl) ?_
    refine G.yldG (by decide) rfl rfl (Yld.eql_i (b := (1 : Int)) rfl rfl) ?_
    refine G.yld (by decide) (Yld.pickF rfl rfl) ?_
    refine G.yld (by decide) (Yld.assign rfl) ?_
    refine G.done ?_
    refine G.ret ?_
    refine G.ret1 (.inr rfl) Try.results40 (.tmp rfl) ?_
    exact ⟨_, (.star (.lift (by simp [Piece.isOpen, h])) (.ex bv (.star (.pick (by repeat (first | with_reducible exact Pick.here | with_reducible apply Pick.there))) (.pick (by repeat (first | with_reducible exact Pick.here | with_reducible apply Pick.there))))))⟩
theorem late_spec (b : Nat) (f : Fm) (hsmall : f.ps.length < 1000000000) : Sl.Spec Try.prog 18 [ptr b].toArray [isF b f] (fun v => star (lift (v = vI f.lateN)) (isF b f.late)) := by
  refine Sl.Spec.of_body (vs := [ptr b]) Try.func18 Try.ntmps18 (Nat.le_of_ble_eq_true rfl) rfl fun w0 F => ?_
  refine G.openF fun v bs r hlen => ?_
  refine G.pick (.there .here) (G.slv fun a cap hv hle hl => ?_)
  obtain rfl := hv
  refine G.seq ?_
  refine G.region ?_
  refine G.yld (by decide) (Yld.assign rfl) ?_
  refine G.done ?_
  refine G.seq ?_
  refine G.region ?_
  refine G.yld (by decide) (Yld.assign rfl) ?_
  refine G.done ?_
  refine G.seq ?_
  refine G.seq ?_
  refine G.region ?_
  refine G.yld (by decide) (Yld.move rfl) ?_
  refine G.yld (by decide) (Yld.nilCheck rfl) ?_
  refine G.yld (by decide) (Yld.fieldAddr Try_fo87_1 rfl) ?_
  refine G.yld (by decide) (Yld.load rfl Try.isAgg85 (by repeat (first | with_reducible exact Pick.here | with_reducible apply Pick.there)) rfl) ?_
  refine G.yld (by decide) (Yld.len_slice Try.runUnderlying85 rfl) ?_
  refine G.yld (by decide) (Yld.move rfl) ?_
  refine G.done ?_
  refine G.block ?_
  refine G.loopE (X := Nat) (fun k => [(3, vI (cntP isAway k f.ps)), (9, .slice a f.ps.length cap), (10, vI f.ps.length), (11, vI k)]) (fun k => [lift (k ≤ f.ps.length), sl true 1 (.slice a f.ps.length cap) f.ps.length (ptc bs), isPs bs (curAt (lateP) k f.ps)]) (fun k => f.ps.length - k) 0 (.as (t := 3) rfl (congrArg vI (cntP_zero _ _).symm) (.cons (t := 9) rfl (.cons (t := 10) rfl (.cons (t := 11) rfl .nil)))) (by rw [curAt_zero]; exact .cons (.lift (Nat.zero_le _)) (Ents.of_picks (.cons (by repeat (first | with_reducible exact Pick.here | with_reducible apply Pick.there)) (.cons (by repeat (first | with_reducible exact Pick.here | with_reducible apply Pick.there)) .nil)))) fun k => ?_
  refine G.lift fun hk => ?_
  have hcb := cntP_le isAway k f.ps
  refine G.seq ?_
  refine G.region ?_
  refine G.yld (by decide) (Yld.lss_i rfl rfl) ?_
  refine G.done ?_
  refine G.seq ?_
  refine G.condP rfl (fun hlt => ?_) (fun hlt => ?_)
  · obtain ⟨bk, hbk⟩ : ∃ b, bs[k]? = some b := ⟨bs[k]'(by omega), by simp⟩
    obtain ⟨p, hp⟩ : ∃ p, f.ps[k]? = some p := ⟨f.ps[k]'(by omega), by simp⟩
    have hmem := List.mem_of_getElem? hp
    refine G.pick (A := sl _ _ _ _ _) (by repeat (first | with_reducible exact Pick.here | with_reducible apply Pick.there)) (G.slice (fun a0 hv hn hc => by omega) (fun bb T off cap2 pre post hv hpre hcs hpost hle2 => ?_))
    cases hv
    refine G.skip ?_
    refine G.seq ?_
    refine G.block ?_
    refine G.seq ?_
    refine G.region ?_
    refine G.yld (by decide) (Yld.indexAddr Try.runUnderlying85 Try.sizeOf89 rfl rfl (by omega) (by omega)) ?_
    refine G.yld (by decide) (Yld.load rfl Try.isAgg89 (by repeat (first | with_reducible exact Pick.here | with_reducible apply Pick.there)) (ptc_at hpre hbk)) ?_
    refine G.yld (by decide) (Yld.assign rfl) ?_
    refine G.done ?_
    refine G.seq ?_
    refine G.conv (A := isPs bs _) (by repeat (first | with_reducible exact Pick.here | with_reducible apply Pick.there)) (isPs_split hbk (curAt_get hp)) ?_
    refine G.star3 ?_
    refine G.ex fun bv => G.star ?_
    refine G.region ?_
    refine G.yld (by decide) (Yld.move rfl) ?_
    refine G.yld (by decide) (Yld.nilCheck rfl) ?_
    refine G.yld (by decide) (Yld.fieldAddr Try_fo93_6 rfl) ?_
    refine G.yld (by decide) (Yld.load rfl Try.isAgg91 (by repeat (first | with_reducible exact Pick.here | with_reducible apply Pick.there)) rfl) ?_
    refine G.yld (by decide) (Yld.eql_i (b := (0 : Int)) rfl rfl) ?_
    refine G.done ?_
    refine G.condP rfl (fun hhow => ?_) (fun hhow => ?_)
    · refine G.seq ?_
      refine G.region ?_
      refine G.yld (by decide) (Yld.move rfl) ?_
      refine G.yld (by decide) (Yld.nilCheck rfl) ?_
      refine G.yld (by decide) (Yld.fieldAddr Try_fo93_6 rfl) ?_
      refine G.op0  (OpC.store Try.sizeOf91 rfl rfl rfl (by repeat (first | with_reducible exact Pick.here | with_reducible apply Pick.there)) rfl (Nat.le_of_ble_eq_true rfl)) fun _ => ?_
      refine G.done ?_
      refine G.region ?_
      refine G.yld (by decide) (Yld.move rfl) ?_
      refine G.yld (by decide) (Yld.add_i (b := (1 : Int)) rfl rfl (by omega)) ?_
      refine G.yld (by decide) (Yld.assign rfl) ?_
      refine G.done ?_
      refine G.nil ?_
      refine G.x_block (G.x_then ?_)
      refine G.region ?_
      refine G.yld (by decide) (Yld.add_i (b := (1 : Int)) rfl rfl (by omega)) ?_
      refine G.yld (by decide) (Yld.move rfl) ?_
      refine G.done ?_
      refine G.nil ?_
      refine G.x_then ?_
      exact G.againE (k + 1) (by omega) (.as (t := 3) rfl (congrArg vI (by rw [cntP_succ hp]; simp [isAway, hhow])) (.cons (t := 9) rfl (.cons (t := 10) rfl (.cons (t := 11) rfl .nil)))) (.cons (.lift (by omega)) (.cons (.imp (.pick (A := cel _ bb _ _) (by repeat (first | with_reducible exact Pick.here | with_reducible apply Pick.there))) fun _ h => .inr ⟨bb, T, off, _, pre, post, rfl, hpre, hcs, hpost, hle2, h⟩) (.cons (entPs hbk (p' := { p with how := 1 }) (entP (.pick (by repeat (first | with_reducible exact Pick.here | with_reducible apply Pick.there))) (.pick (A := cel _ bk _ _) (by repeat (first | with_reducible exact Pick.here | with_reducible apply Pick.there))) (by rfl)) (.pick (A := isPs (bs.take k) _) (by repeat (first | with_reducible exact Pick.here | with_reducible apply Pick.there))) (.pick (A := isPs (bs.drop (k + 1)) _) (by repeat (first | with_reducible exact Pick.here | with_reducible apply Pick.there))) (by rw [← curAt_set hp]; simp [lateP, hhow]) (by rw [curAt_length]; omega)) .nil)))
    · refine G.skip ?_
      refine G.nil ?_
      refine G.x_block (G.x_then ?_)
      refine G.region ?_
      refine G.yld (by decide) (Yld.add_i (b := (1 : Int)) rfl rfl (by omega)) ?_
      refine G.yld (by decide) (Yld.move rfl) ?_
      refine G.done ?_
      refine G.nil ?_
      refine G.x_then ?_
      exact G.againE (k + 1) (by omega) (.as (t := 3) rfl (congrArg vI (by rw [cntP_succ hp]; simp [isAway, hhow])) (.cons (t := 9) rfl (.cons (t := 10) rfl (.cons (t := 11) rfl .nil)))) (.cons (.lift (by omega)) (.cons (.imp (.pick (A := cel _ bb _ _) (by repeat (first | with_reducible exact Pick.here | with_reducible apply Pick.there))) fun _ h => .inr ⟨bb, T, off, _, pre, post, rfl, hpre, hcs, hpost, hle2, h⟩) (.cons (entPs hbk (p' := p) (entP (.pick (by repeat (first | with_reducible exact Pick.here | with_reducible apply Pick.there))) (.pick (A := cel _ bk _ _) (by repeat (first | with_reducible exact Pick.here | with_reducible apply Pick.there))) (by rfl)) (.pick (A := isPs (bs.take k) _) (by repeat (first | with_reducible exact Pick.here | with_reducible apply Pick.there))) (.pick (A := isPs (bs.drop (k + 1)) _) (by repeat (first | with_reducible exact Pick.here | with_reducible apply Pick.there))) (by rw [← curAt_set hp]; simp [lateP, hhow]) (by rw [curAt_length]; omega)) .nil)))
  · refine G.exit ?_
    refine G.x_exit_then (G.x_exit_then ?_)
    refine G.x_exit_block (G.x_then ?_)
    refine G.unframe (by repeat (first | exact App.nil | apply App.cons)) ?_
    refine G.seq ?_
    refine G.region ?_
    refine G.yld (by decide) (Yld.move rfl) ?_
    refine G.yld (by decide) (Yld.assign rfl) ?_
    refine G.done ?_
    refine G.ret ?_
    have hk2 : k = f.ps.length := by omega
    subst hk2
    refine G.ret1 (.inr rfl) Try.results18 (.tmp rfl) ?_
    exact ⟨_, (.star (.lift (by rw [cntP_all]; rfl)) (entF (.pick (by repeat (first | with_reducible exact Pick.here | with_reducible apply Pick.there))) (.pick (by repeat (first | with_reducible exact Pick.here | with_reducible apply Pick.there))) (by simp [Fm.late]) (.imp (.pick (A := isPs bs _) (by repeat (first | with_reducible exact Pick.here | with_reducible apply Pick.there))) fun _ h => by rw [curAt_end (Nat.le_refl _)] at h; exact h) (.pick (by repeat (first | with_reducible exact Pick.here | with_reducible apply Pick.there)))))⟩
theorem flBytes_spec (b : Nat) (f : Fm) (hf : f.ok) : Sl.Spec Try.prog 36 [ptr b].toArray [isF b f] (fun v => star (lift (v = vI f.bytes)) (isF b f)) := by
  refine Sl.Spec.of_body (vs := [ptr b]) Try.func36 Try.ntmps36 (Nat.le_of_ble_eq_true rfl) rfl fun w0 F => ?_
  have hsmall := hf.len
  refine G.openF fun v bs r hlen => ?_
  refine G.pick (.there .here) (G.slv fun a cap hv hle hl => ?_)
  obtain rfl := hv
  refine G.seq ?_
  refine G.region ?_
  refine G.yld (by decide) (Yld.assign rfl) ?_
  refine G.done ?_
  refine G.seq ?_
  refine G.region ?_
  refine G.yld (by decide) (Yld.assign rfl) ?_
  refine G.done ?_
  refine G.seq ?_
  refine G.seq ?_
  refine G.region ?_
  refine G.yld (by decide) (Yld.move rfl) ?_
  refine G.yld (by decide) (Yld.nilCheck rfl) ?_
  refine G.yld (by decide) (Yld.fieldAddr Try_fo87_1 rfl) ?_
  refine G.yld (by decide) (Yld.load rfl Try.isAgg85 (by repeat (first | with_reducible exact Pick.here | with_reducible apply Pick.there)) rfl) ?_
  refine G.yld (by decide) (Yld.len_slice Try.runUnderlying85 rfl) ?_
  refine G.yld (by decide) (Yld.move rfl) ?_
  refine G.done ?_
  refine G.block ?_
  refine G.loopE (X := Nat) (fun k => [(3, vI (bytK k f.ps)), (9, .slice a f.ps.length cap), (10, vI f.ps.length), (11, vI k)]) (fun k => [lift (k ≤ f.ps.length), sl true 1 (.slice a f.ps.length cap) f.ps.length (ptc bs), isPs bs f.ps]) (fun k => f.ps.length - k) 0 (.as (t := 3) rfl (congrArg vI (bytK_zero _).symm) (.cons (t := 9) rfl (.cons (t := 10) rfl (.cons (t := 11) rfl .nil)))) (by exact .cons (.lift (Nat.zero_le _)) (Ents.of_picks (.cons (by repeat (first | with_reducible exact Pick.here | with_reducible apply Pick.there)) (.cons (by repeat (first | with_reducible exact Pick.here | with_reducible apply Pick.there)) .nil)))) fun k => ?_
  refine G.lift fun hk => ?_
  have hcb := bytK_le hf k hk
  refine G.seq ?_
  refine G.region ?_
  refine G.yld (by decide) (Yld.lss_i rfl rfl) ?_
  refine G.done ?_
  refine G.seq ?_
  refine G.condP rfl (fun hlt => ?_) (fun hlt => ?_)
  · obtain ⟨bk, hbk⟩ : ∃ b, bs[k]? = some b := ⟨bs[k]'(by omega), by simp⟩
    obtain ⟨p, hp⟩ : ∃ p, f.ps[k]? = some p := ⟨f.ps[k]'(by omega), by simp⟩
    have hmem := List.mem_of_getElem? hp
    refine G.pick (A := sl _ _ _ _ _) (by repeat (first | with_reducible exact Pick.here | with_reducible apply Pick.there)) (G.slice (fun a0 hv hn hc => by omega) (fun bb T off cap2 pre post hv hpre hcs hpost hle2 => ?_))
    cases hv
    refine G.skip ?_
    refine G.seq ?_
    refine G.block ?_
    refine G.seq ?_
    refine G.region ?_
    refine G.yld (by decide) (Yld.indexAddr Try.runUnderlying85 Try.sizeOf89 rfl rfl (by omega) (by omega)) ?_
    refine G.yld (by decide) (Yld.load rfl Try.isAgg89 (by repeat (first | with_reducible exact Pick.here | with_reducible apply Pick.there)) (ptc_at hpre hbk)) ?_
    refine G.yld (by decide) (Yld.assign rfl) ?_
    refine G.done ?_
    refine G.seq ?_
    refine G.conv (A := isPs bs _) (by repeat (first | with_reducible exact Pick.here | with_reducible apply Pick.there)) (isPs_split hbk hp) ?_
    refine G.star3 ?_
    refine G.ex fun bv => G.star ?_
    refine G.region ?_
    refine G.yld (by decide) (Yld.move rfl) ?_
    refine G.yld (by decide) (Yld.nilCheck rfl) ?_
    refine G.yld (by decide) (Yld.fieldAddr Try_fo93_6 rfl) ?_
    refine G.yld (by decide) (Yld.load rfl Try.isAgg91 (by repeat (first | with_reducible exact Pick.here | with_reducible apply Pick.there)) rfl) ?_
    refine G.yld (by decide) (Yld.eql_i (b := (0 : Int)) rfl rfl) ?_
    refine G.done ?_
    refine G.condP rfl (fun hhow => ?_) (fun hhow => ?_)
    · have hbd := hf.body p hmem
      refine G.pick (A := sl false _ _ _ _) (by repeat (first | with_reducible exact Pick.here | with_reducible apply Pick.there)) (G.slv fun ab capb hvb hleb hlb => ?_)
      obtain rfl := hvb
      refine G.region ?_
      refine G.yld (by decide) (Yld.move rfl) ?_
      refine G.yld (by decide) (Yld.move rfl) ?_
      refine G.yld (by decide) (Yld.nilCheck rfl) ?_
      refine G.yld (by decide) (Yld.fieldAddr Try_fo93_0 rfl) ?_
      refine G.yld (by decide) (Yld.fieldAddr Try_fo36_18 rfl) ?_
      refine G.yld (by decide) (Yld.load rfl Try.isAgg23 (by repeat (first | with_reducible exact Pick.here | with_reducible apply Pick.there)) rfl) ?_
      refine G.yld (by decide) (Yld.len_slice Try.runUnderlying23 rfl) ?_
      refine G.yld (by decide) (Yld.add_i rfl rfl (by omega)) ?_
      refine G.yld (by decide) (Yld.assign rfl) ?_
      refine G.done ?_
      refine G.nil ?_
      refine G.x_block (G.x_then ?_)
      refine G.region ?_
      refine G.yld (by decide) (Yld.add_i (b := (1 : Int)) rfl rfl (by omega)) ?_
      refine G.yld (by decide) (Yld.move rfl) ?_
      refine G.done ?_
      refine G.nil ?_
      refine G.x_then ?_
      exact G.againE (k + 1) (by omega) (.as (t := 3) rfl (congrArg vI (by rw [bytK_succ hp]; simp [isAway, hhow])) (.cons (t := 9) rfl (.cons (t := 10) rfl (.cons (t := 11) rfl .nil)))) (.cons (.lift (by omega)) (.cons (.imp (.pick (A := cel _ bb _ _) (by repeat (first | with_reducible exact Pick.here | with_reducible apply Pick.there))) fun _ h => .inr ⟨bb, T, off, _, pre, post, rfl, hpre, hcs, hpost, hle2, h⟩) (.cons (entPs hbk (p' := p) (entP (.pick (by repeat (first | with_reducible exact Pick.here | with_reducible apply Pick.there))) (.pick (A := cel _ bk _ _) (by repeat (first | with_reducible exact Pick.here | with_reducible apply Pick.there))) (by rfl)) (.pick (A := isPs (bs.take k) _) (by repeat (first | with_reducible exact Pick.here | with_reducible apply Pick.there))) (.pick (A := isPs (bs.drop (k + 1)) _) (by repeat (first | with_reducible exact Pick.here | with_reducible apply Pick.there))) (set_same hp) (by omega)) .nil)))
    · refine G.skip ?_
      refine G.nil ?_
      refine G.x_block (G.x_then ?_)
      refine G.region ?_
      refine G.yld (by decide) (Yld.add_i (b := (1 : Int)) rfl rfl (by omega)) ?_
      refine G.yld (by decide) (Yld.move rfl) ?_
      refine G.done ?_
      refine G.nil ?_
      refine G.x_then ?_
      exact G.againE (k + 1) (by omega) (.as (t := 3) rfl (congrArg vI (by rw [bytK_succ hp]; simp [isAway, hhow])) (.cons (t := 9) rfl (.cons (t := 10) rfl (.cons (t := 11) rfl .nil)))) (.cons (.lift (by omega)) (.cons (.imp (.pick (A := cel _ bb _ _) (by repeat (first | with_reducible exact Pick.here | with_reducible apply Pick.there))) fun _ h => .inr ⟨bb, T, off, _, pre, post, rfl, hpre, hcs, hpost, hle2, h⟩) (.cons (entPs hbk (p' := p) (entP (.pick (by repeat (first | with_reducible exact Pick.here | with_reducible apply Pick.there))) (.pick (A := cel _ bk _ _) (by repeat (first | with_reducible exact Pick.here | with_reducible apply Pick.there))) (by rfl)) (.pick (A := isPs (bs.take k) _) (by repeat (first | with_reducible exact Pick.here | with_reducible apply Pick.there))) (.pick (A := isPs (bs.drop (k + 1)) _) (by repeat (first | with_reducible exact Pick.here | with_reducible apply Pick.there))) (set_same hp) (by omega)) .nil)))
  · refine G.exit ?_
    refine G.x_exit_then (G.x_exit_then ?_)
    refine G.x_exit_block (G.x_then ?_)
    refine G.unframe (by repeat (first | exact App.nil | apply App.cons)) ?_
    refine G.seq ?_
    refine G.region ?_
    refine G.yld (by decide) (Yld.move rfl) ?_
    refine G.yld (by decide) (Yld.assign rfl) ?_
    refine G.done ?_
    refine G.ret ?_
    have hk2 : k = f.ps.length := by omega
    subst hk2
    refine G.ret1 (.inr rfl) Try.results36 (.tmp rfl) ?_
    exact ⟨_, (.star (.lift (by rw [bytK_all]; rfl)) (entF (.pick (by repeat (first | with_reducible exact Pick.here | with_reducible apply Pick.there))) (.pick (by repeat (first | with_reducible exact Pick.here | with_reducible apply Pick.there))) rfl (.pick (by repeat (first | with_reducible exact Pick.here | with_reducible apply Pick.there))) (.pick (by repeat (first | with_reducible exact Pick.here | with_reducible apply Pick.there)))))⟩
theorem flLeft_spec (b : Nat) (f : Fm) (hsmall : f.ps.length < 1000000000) : Sl.Spec Try.prog 20 [ptr b].toArray [isF b f] (fun v => star (lift (v = vI f.left)) (isF b f)) := by
  refine Sl.Spec.of_body (vs := [ptr b]) Try.func20 Try.ntmps20 (Nat.le_of_ble_eq_true rfl) rfl fun w0 F => ?_
  refine G.openF fun v bs r hlen => ?_
  refine G.pick (.there .here) (G.slv fun a cap hv hle hl => ?_)
  obtain rfl := hv
  refine G.seq ?_
  refine G.region ?_
  refine G.yld (by decide) (Yld.assign rfl) ?_
  refine G.done ?_
  refine G.seq ?_
  refine G.region ?_
  refine G.yld (by decide) (Yld.assign rfl) ?_
  refine G.done ?_
  refine G.seq ?_
  refine G.seq ?_
  refine G.region ?_
  refine G.yld (by decide) (Yld.move rfl) ?_
  refine G.yld (by decide) (Yld.nilCheck rfl) ?_
  refine G.yld (by decide) (Yld.fieldAddr Try_fo87_1 rfl) ?_
  refine G.yld (by decide) (Yld.load rfl Try.isAgg85 (by repeat (first | with_reducible exact Pick.here | with_reducible apply Pick.there)) rfl) ?_
  refine G.yld (by decide) (Yld.len_slice Try.runUnderlying85 rfl) ?_
  refine G.yld (by decide) (Yld.move rfl) ?_
  refine G.done ?_
  refine G.block ?_
  refine G.loopE (X := Nat) (fun k => [(3, vI (cntP Piece.isOpen k f.ps)), (9, .slice a f.ps.length cap), (10, vI f.ps.length), (11, vI k)]) (fun k => [lift (k ≤ f.ps.length), sl true 1 (.slice a f.ps.length cap) f.ps.length (ptc bs), isPs bs f.ps]) (fun k => f.ps.length - k) 0 (.as (t := 3) rfl (congrArg vI (cntP_zero _ _).symm) (.cons (t := 9) rfl (.cons (t := 10) rfl (.cons (t := 11) rfl .nil)))) (by exact .cons (.lift (Nat.zero_le _)) (Ents.of_picks (.cons (by repeat (first | with_reducible exact Pick.here | with_reducible apply Pick.there)) (.cons (by repeat (first | with_reducible exact Pick.here | with_reducible apply Pick.there)) .nil)))) fun k => ?_
  refine G.lift fun hk => ?_
  have hcb := cntP_le Piece.isOpen k f.ps
  refine G.seq ?_
  refine G.region ?_
  refine G.yld (by decide) (Yld.lss_i rfl rfl) ?_
  refine G.done ?_
  refine G.seq ?_
  refine G.condP rfl (fun hlt => ?_) (fun hlt => ?_)
  · obtain ⟨bk, hbk⟩ : ∃ b, bs[k]? = some b := ⟨bs[k]'(by omega), by simp⟩
    obtain ⟨p, hp⟩ : ∃ p, f.ps[k]? = some p := ⟨f.ps[k]'(by omega), by simp⟩
    have hmem := List.mem_of_getElem? hp
    refine G.pick (A := sl _ _ _ _ _) (by repeat (first | with_reducible exact Pick.here | with_reducible apply Pick.there)) (G.slice (fun a0 hv hn hc => by omega) (fun bb T off cap2 pre post hv hpre hcs hpost hle2 => ?_))
    cases hv
    refine G.skip ?_
    refine G.seq ?_
    refine G.block ?_
    refine G.seq ?_
    refine G.region ?_
    refine G.yld (by decide) (Yld.indexAddr Try.runUnderlying85 Try.sizeOf89 rfl rfl (by omega) (by omega)) ?_
    refine G.yld (by decide) (Yld.load rfl Try.isAgg89 (by repeat (first | with_reducible exact Pick.here | with_reducible apply Pick.there)) (ptc_at hpre hbk)) ?_
    refine G.yld (by decide) (Yld.assign rfl) ?_
    refine G.done ?_
    refine G.seq ?_
    refine G.conv (A := isPs bs _) (by repeat (first | with_reducible exact Pick.here | with_reducible apply Pick.there)) (isPs_split hbk hp) ?_
    refine G.star3 ?_
    refine G.region ?_
    refine G.yld (by decide) (Yld.move rfl) ?_
    refine G.opc (by decide) (OpC.call Try.call40 rfl (open_spec _ _) (.cons (by repeat (first | with_reducible exact Pick.here | with_reducible apply Pick.there)) .nil)) fun v => ?_
    refine G.star ?_
    refine G.lift ?_
    rintro rfl
    refine G.done ?_
    refine G.cond rfl (fun hop => ?_) (fun hop => ?_)
    · refine G.region ?_
      refine G.yld (by decide) (Yld.move rfl) ?_
      refine G.yld (by decide) (Yld.add_i (b := (1 : Int)) rfl rfl (by omega)) ?_
      refine G.yld (by decide) (Yld.assign rfl) ?_
      refine G.done ?_
      refine G.nil ?_
      refine G.x_block (G.x_then ?_)
      refine G.region ?_
      refine G.yld (by decide) (Yld.add_i (b := (1 : Int)) rfl rfl (by omega)) ?_
      refine G.yld (by decide) (Yld.move rfl) ?_
      refine G.done ?_
      refine G.nil ?_
      refine G.x_then ?_
      exact G.againE (k + 1) (by omega) (.as (t := 3) rfl (congrArg vI (by rw [cntP_succ hp]; simp [hop])) (.cons (t := 9) rfl (.cons (t := 10) rfl (.cons (t := 11) rfl .nil)))) (.cons (.lift (by omega)) (.cons (.imp (.pick (A := cel _ bb _ _) (by repeat (first | with_reducible exact Pick.here | with_reducible apply Pick.there))) fun _ h => .inr ⟨bb, T, off, _, pre, post, rfl, hpre, hcs, hpost, hle2, h⟩) (.cons (entPs hbk (p' := p) (.pick (A := isP bk p) (by repeat (first | with_reducible exact Pick.here | with_reducible apply Pick.there))) (.pick (A := isPs (bs.take k) _) (by repeat (first | with_reducible exact Pick.here | with_reducible apply Pick.there))) (.pick (A := isPs (bs.drop (k + 1)) _) (by repeat (first | with_reducible exact Pick.here | with_reducible apply Pick.there))) (set_same hp) (by omega)) .nil)))
    · refine G.skip ?_
      refine G.nil ?_
      refine G.x_block (G.x_then ?_)
      refine G.region ?_
      refine G.yld (by decide) (Yld.add_i (b := (1 : Int)) rfl rfl (by omega)) ?_
      refine G.yld (by decide) (Yld.move rfl) ?_
      refine G.done ?_
      refine G.nil ?_
      refine G.x_then ?_
      exact G.againE (k + 1) (by omega) (.as (t := 3) rfl (congrArg vI (by rw [cntP_succ hp]; simp [hop])) (.cons (t := 9) rfl (.cons (t := 10) rfl (.cons (t := 11) rfl .nil)))) (.cons (.lift (by omega)) (.cons (.imp (.pick (A := cel _ bb _ _) (by repeat (first | with_reducible exact Pick.here | with_reducible apply Pick.there))) fun _ h => .inr ⟨bb, T, off, _, pre, post, rfl, hpre, hcs, hpost, hle2, h⟩) (.cons (entPs hbk (p' := p) (.pick (A := isP bk p) (by repeat (first | with_reducible exact Pick.here | with_reducible apply Pick.there))) (.pick (A := isPs (bs.take k) _) (by repeat (first | with_reducible exact Pick.here | with_reducible apply Pick.there))) (.pick (A := isPs (bs.drop (k + 1)) _) (by repeat (first | with_reducible exact Pick.here | with_reducible apply Pick.there))) (set_same hp) (by omega)) .nil)))
  · refine G.exit ?_
    refine G.x_exit_then (G.x_exit_then ?_)
    refine G.x_exit_block (G.x_then ?_)
    refine G.unframe (by repeat (first | exact App.nil | apply App.cons)) ?_
    refine G.seq ?_
    refine G.region ?_
    refine G.yld (by decide) (Yld.move rfl) ?_
    refine G.yld (by decide) (Yld.assign rfl) ?_
    refine G.done ?_
    refine G.ret ?_
    have hk2 : k = f.ps.length := by omega
    subst hk2
    refine G.ret1 (.inr rfl) Try.results20 (.tmp rfl) ?_
    exact ⟨_, (.star (.lift (by rw [cntP_all]; rfl)) (entF (.pick (by repeat (first | with_reducible exact Pick.here | with_reducible apply Pick.there))) (.pick (by repeat (first | with_reducible exact Pick.here | with_reducible apply Pick.there))) rfl (.pick (by repeat (first | with_reducible exact Pick.here | with_reducible apply Pick.there))) (.pick (by repeat (first | with_reducible exact Pick.here | with_reducible apply Pick.there)))))⟩
theorem give_spec (b : Nat) (f : Fm) (m : Int) (x : Value) (bs : List Nat) (r n : Nat) (hn : f.ps.length = n) (hsmall : f.ps.length < 1000000000) : Sl.Spec Try.prog 41 [ptr b, vI m].toArray [cel true b 87 [vU32 (f).mark, x, .map (some r)], sl true 1 x n (ptc bs), isPs bs (f).ps, mapA encI r (goneC (f).gone)] (fun v => star (cel true b 87 [vU32 (f.give m).mark, x, .map (some r)]) (star (sl true 1 x n (ptc bs)) (star (isPs bs (f.give m).ps) (mapA encI r (goneC (f.give m).gone))))) := by
  refine Sl.Spec.of_body (vs := [ptr b, vI m]) Try.func41 Try.ntmps41 (Nat.le_of_ble_eq_true rfl) rfl fun w0 F => ?_
  subst hn
  refine G.fact (A := isPs bs f.ps) (by repeat (first | with_reducible exact Pick.here | with_reducible apply Pick.there)) (fun _ h => isPs_len h) fun hlen => ?_
  refine G.pick (A := sl true 1 x _ _) (by repeat (first | with_reducible exact Pick.here | with_reducible apply Pick.there)) (G.slv fun a cap hv hle hl => ?_)
  subst hv
  refine G.seq ?_
  refine G.region ?_
  refine G.yld (by decide) (Yld.move rfl) ?_
  refine G.yld (by decide) (Yld.nilCheck rfl) ?_
  refine G.yld (by decide) (Yld.fieldAddr Try_fo87_2 rfl) ?_
  refine G.yld (by decide) (Yld.load rfl Try.isAgg84 (by repeat (first | with_reducible exact Pick.here | with_reducible apply Pick.there)) rfl) ?_
  refine G.yld (by decide) (Yld.move rfl) ?_
  refine G.op0  (OpC.mapUpdate (enc := encI) (k := m) (KeyLaw.int Try.underlying3) Try.runUnderlying84 rfl rfl rfl (by repeat (first | with_reducible exact Pick.here | with_reducible apply Pick.there))) fun _ => ?_
  rw [aset_gone]
  refine G.done ?_
  refine G.seq ?_
  refine G.region ?_
  refine G.yld (by decide) (Yld.move rfl) ?_
  refine G.yld (by decide) (Yld.nilCheck rfl) ?_
  refine G.yld (by decide) (Yld.fieldAddr Try_fo87_1 rfl) ?_
  refine G.yld (by decide) (Yld.load rfl Try.isAgg85 (by repeat (first | with_reducible exact Pick.here | with_reducible apply Pick.there)) rfl) ?_
  refine G.yld (by decide) (Yld.len_slice Try.runUnderlying85 rfl) ?_
  refine G.yld (by decide) (Yld.move rfl) ?_
  refine G.done ?_
  refine G.block ?_
  refine G.loopE (X := Nat) (fun k => [(14, .slice a f.ps.length cap), (15, vI f.ps.length), (16, vI k), (1, vI m)]) (fun k => [lift (k ≤ f.ps.length), sl true 1 (.slice a f.ps.length cap) f.ps.length (ptc bs), isPs bs (curAt (giveP m) k f.ps)]) (fun k => f.ps.length - k) 0 (.cons (t := 14) rfl (.cons (t := 15) rfl (.cons (t := 16) rfl (.cons (t := 1) rfl .nil)))) (by rw [curAt_zero]; exact .cons (.lift (Nat.zero_le _)) (Ents.of_picks (.cons (by repeat (first | with_reducible exact Pick.here | with_reducible apply Pick.there)) (.cons (by repeat (first | with_reducible exact Pick.here | with_reducible apply Pick.there)) .nil)))) fun k => ?_
  refine G.lift fun hk => ?_
  refine G.seq ?_
  refine G.region ?_
  refine G.yld (by decide) (Yld.lss_i rfl rfl) ?_
  refine G.done ?_
  refine G.seq ?_
  refine G.condP rfl (fun hlt => ?_) (fun hlt => ?_)
  · obtain ⟨bk, hbk⟩ : ∃ b, bs[k]? = some b := ⟨bs[k]'(by omega), by simp⟩
    obtain ⟨p, hp⟩ : ∃ p, f.ps[k]? = some p := ⟨f.ps[k]'(by omega), by simp⟩
    have hmem := List.mem_of_getElem? hp
    refine G.pick (A := sl _ _ _ _ _) (by repeat (first | with_reducible exact Pick.here | with_reducible apply Pick.there)) (G.slice (fun a0 hv hn hc => by omega) (fun bb T off cap2 pre post hv hpre hcs hpost hle2 => ?_))
    cases hv
    refine G.skip ?_
    refine G.seq ?_
    refine G.block ?_
    refine G.seq ?_
    refine G.region ?_
    refine G.yld (by decide) (Yld.indexAddr Try.runUnderlying85 Try.sizeOf89 rfl rfl (by omega) (by omega)) ?_
    refine G.yld (by decide) (Yld.load rfl Try.isAgg89 (by repeat (first | with_reducible exact Pick.here | with_reducible apply Pick.there)) (ptc_at hpre hbk)) ?_
    refine G.yld (by decide) (Yld.assign rfl) ?_
    refine G.done ?_
    refine G.seq ?_
    refine G.conv (A := isPs bs _) (by repeat (first | with_reducible exact Pick.here | with_reducible apply Pick.there)) (isPs_split hbk (curAt_get hp)) ?_
    refine G.star3 ?_
    refine G.cutB (t := 29) (v := .bool (decide (p.m = m ∧ p.isOpen))) (.cons (t := 1) rfl (.cons (t := 5) rfl (.cons (t := 14) rfl (.cons (t := 15) rfl (.cons (t := 16) rfl .nil))))) ?_ ?_
    · refine G.ex fun bv => G.star ?_
      refine G.region ?_
      refine G.yld (by decide) (Yld.move rfl) ?_
      refine G.yld (by decide) (Yld.nilCheck rfl) ?_
      refine G.yld (by decide) (Yld.fieldAddr Try_fo93_1 rfl) ?_
      refine G.yld (by decide) (Yld.load rfl Try.isAgg3 (by repeat (first | with_reducible exact Pick.here | with_reducible apply Pick.there)) rfl) ?_
      refine G.fold (A := isP bk p) (entP (.pick (by repeat (first | with_reducible exact Pick.here | with_reducible apply Pick.there))) (.pick (A := cel _ bk _ _) (by repeat (first | with_reducible exact Pick.here | with_reducible apply Pick.there))) (by rfl)) ?_
      refine G.yld (by decide) (Yld.move rfl) ?_
      refine G.yld (by decide) (Yld.eql_i rfl rfl) ?_
      refine G.yld (by decide) (Yld.move rfl) ?_
      refine G.splitB (t := 26) rfl (fun hm => ?_) (fun hm => ?_)
      · refine G.yldG (by decide) rfl rfl (Yld.move rfl) ?_
        refine G.opG (by decide) rfl rfl (OpC.call Try.call40 rfl (open_spec _ _) (.cons (by repeat (first | with_reducible exact Pick.here | with_reducible apply Pick.there)) .nil)) fun v => ?_
        refine G.star ?_
        refine G.lift ?_
        rintro rfl
        refine G.yld (by decide) (Yld.pickT rfl rfl) ?_
        refine G.done ?_
        refine G.nil ?_
        exact G.cutEnd (.as (t := 29) rfl (congrArg Value.bool (by simp [*])) (.cons (t := 1) rfl (.cons (t := 5) rfl (.cons (t := 14) rfl (.cons (t := 15) rfl (.cons (t := 16) rfl .nil)))))) (.cons (by repeat (first | with_reducible exact Pick.here | with_reducible apply Pick.there)) (.cons (by repeat (first | with_reducible exact Pick.here | with_reducible apply Pick.there)) (.cons (by repeat (first | with_reducible exact Pick.here | with_reducible apply Pick.there)) (.cons (by repeat (first | with_reducible exact Pick.here | with_reducible apply Pick.there)) .nil))))
      · refine G.skipG (by decide) rfl rfl rfl ?_
        refine G.skipG (by decide) rfl rfl rfl ?_
        refine G.yld (by decide) (Yld.pickF rfl rfl) ?_
        refine G.done ?_
        refine G.nil ?_
        exact G.cutEnd (.as (t := 29) rfl (congrArg Value.bool (by simp [*])) (.cons (t := 1) rfl (.cons (t := 5) rfl (.cons (t := 14) rfl (.cons (t := 15) rfl (.cons (t := 16) rfl .nil)))))) (.cons (by repeat (first | with_reducible exact Pick.here | with_reducible apply Pick.there)) (.cons (by repeat (first | with_reducible exact Pick.here | with_reducible apply Pick.there)) (.cons (by repeat (first | with_reducible exact Pick.here | with_reducible apply Pick.there)) (.cons (by repeat (first | with_reducible exact Pick.here | with_reducible apply Pick.there)) .nil))))
    refine G.condP rfl (fun hg => ?_) (fun hg => ?_)
    · refine G.pick (A := isP bk p) (by repeat (first | with_reducible exact Pick.here | with_reducible apply Pick.there)) (G.ex fun bv => G.star ?_)
      refine G.region ?_
      refine G.yld (by decide) (Yld.move rfl) ?_
      refine G.yld (by decide) (Yld.nilCheck rfl) ?_
      refine G.yld (by decide) (Yld.fieldAddr Try_fo93_6 rfl) ?_
      refine G.op0  (OpC.store Try.sizeOf91 rfl rfl rfl (by repeat (first | with_reducible exact Pick.here | with_reducible apply Pick.there)) rfl (Nat.le_of_ble_eq_true rfl)) fun _ => ?_
      refine G.done ?_
      refine G.nil ?_
      refine G.x_block (G.x_then ?_)
      refine G.region ?_
      refine G.yld (by decide) (Yld.add_i (b := (1 : Int)) rfl rfl (by omega)) ?_
      refine G.yld (by decide) (Yld.move rfl) ?_
      refine G.done ?_
      refine G.nil ?_
      refine G.x_then ?_
      exact G.againE (k + 1) (by omega) (.cons (t := 14) rfl (.cons (t := 15) rfl (.cons (t := 16) rfl (.cons (t := 1) rfl .nil)))) (.cons (.lift (by omega)) (.cons (.imp (.pick (A := cel _ bb _ _) (by repeat (first | with_reducible exact Pick.here | with_reducible apply Pick.there))) fun _ h => .inr ⟨bb, T, off, _, pre, post, rfl, hpre, hcs, hpost, hle2, h⟩) (.cons (entPs hbk (p' := { p with how := 3 }) (entP (.pick (by repeat (first | with_reducible exact Pick.here | with_reducible apply Pick.there))) (.pick (A := cel _ bk _ _) (by repeat (first | with_reducible exact Pick.here | with_reducible apply Pick.there))) (by rfl)) (.pick (A := isPs (bs.take k) _) (by repeat (first | with_reducible exact Pick.here | with_reducible apply Pick.there))) (.pick (A := isPs (bs.drop (k + 1)) _) (by repeat (first | with_reducible exact Pick.here | with_reducible apply Pick.there))) (by rw [← curAt_set hp]; simp [giveP, hg]) (by rw [curAt_length]; omega)) .nil)))
    · refine G.skip ?_
      refine G.nil ?_
      refine G.x_block (G.x_then ?_)
      refine G.region ?_
      refine G.yld (by decide) (Yld.add_i (b := (1 : Int)) rfl rfl (by omega)) ?_
      refine G.yld (by decide) (Yld.move rfl) ?_
      refine G.done ?_
      refine G.nil ?_
      refine G.x_then ?_
      exact G.againE (k + 1) (by omega) (.cons (t := 14) rfl (.cons (t := 15) rfl (.cons (t := 16) rfl (.cons (t := 1) rfl .nil)))) (.cons (.lift (by omega)) (.cons (.imp (.pick (A := cel _ bb _ _) (by repeat (first | with_reducible exact Pick.here | with_reducible apply Pick.there))) fun _ h => .inr ⟨bb, T, off, _, pre, post, rfl, hpre, hcs, hpost, hle2, h⟩) (.cons (entPs hbk (p' := p) (.pick (A := isP bk p) (by repeat (first | with_reducible exact Pick.here | with_reducible apply Pick.there))) (.pick (A := isPs (bs.take k) _) (by repeat (first | with_reducible exact Pick.here | with_reducible apply Pick.there))) (.pick (A := isPs (bs.drop (k + 1)) _) (by repeat (first | with_reducible exact Pick.here | with_reducible apply Pick.there))) (by rw [← curAt_set hp]; simp [giveP, hg]) (by rw [curAt_length]; omega)) .nil)))
  · refine G.exit ?_
    refine G.x_exit_then (G.x_exit_then ?_)
    refine G.x_exit_block (G.x_then ?_)
    refine G.unframe (by repeat (first | exact App.nil | apply App.cons)) ?_
    refine G.nil ?_
    have hk2 : k = f.ps.length := by omega
    subst hk2
    refine G.ret0 (.inl rfl) Try.results41 ?_
    exact ⟨_, (.star (.pick (by repeat (first | with_reducible exact Pick.here | with_reducible apply Pick.there))) (.star (.imp (.pick (A := sl true 1 (.slice a _ _) _ _) (by repeat (first | with_reducible exact Pick.here | with_reducible apply Pick.there))) fun _ h => by simpa using h) (.star (.imp (.pick (A := isPs bs _) (by repeat (first | with_reducible exact Pick.here | with_reducible apply Pick.there))) fun _ h => by rw [curAt_end (Nat.le_refl _)] at h; exact h) (.pick (by repeat (first | with_reducible exact Pick.here | with_reducible apply Pick.there))))))⟩
end Go.Fl
