/- Contracts, printed by a program of mine and proved by Lean. -/
import Derived.Test.YtogemllbdkbjkaaFlFlightF
import Derived.Test.YtogemllbdkbjkaaFlA4
import Derived.Test.YtogemllbdkbjkaaFlKeys
set_option linter.unusedVariables false
set_option linter.unusedSimpArgs false
namespace Go.Fl
open Go Go.Sl Go.Proofs
set_option maxRecDepth 10000
set_option linter.unusedVariables false
theorem again_spec (b : Nat) (f : Fm) (now : UInt32) (hf : f.ok) : Sl.Spec Try.prog 19 [ptr b, vU32 now].toArray [isF b f] (fun v => ex fun bv => star (lift (v = .tuple #[ckV (ckO (f.again now).1).1 bv, .bool (f.again now).1.isSome])) (star (byo bv (ckO (f.again now).1).2) (isF b (f.again now).2))) := by
  refine Sl.Spec.of_body (vs := [ptr b, vU32 now]) Try.func19 Try.ntmps19 (Nat.le_of_ble_eq_true rfl) rfl fun w0 F => ?_
  have hsmall := hf.len
  refine G.seq ?_
  refine G.region ?_
  refine G.opc (by decide) (OpC.alloc (cs := [.int .u8 0, .bool false, .bool false, .bool false, .bool false, .int .u32 0, .int .u16 0, .int .u32 0, .int .u32 0, .int .u32 0, .int .u32 0, .int .u32 0, .int .u16 0, .int .u16 0, .slice none 0 0, .slice none 0 0, .slice none 0 0, .slice none 0 0, .slice none 0 0]) Try.zeroValue36 rfl) fun b4 => ?_
  refine G.yld (by decide) (Yld.assign rfl) ?_
  refine G.done ?_
  refine G.seq ?_
  refine G.seq ?_
  refine G.pick (A := isF b f) (by repeat (first | with_reducible exact Pick.here | with_reducible apply Pick.there)) ?_
  refine G.openF fun v bs r hlen => ?_
  refine G.pick (A := sl true 1 v _ _) (by repeat (first | with_reducible exact Pick.here | with_reducible apply Pick.there)) (G.slv fun a cap hv hle hl => ?_)
  obtain rfl := hv
  refine G.region ?_
  refine G.yld (by decide) (Yld.move rfl) ?_
  refine G.yld (by decide) (Yld.nilCheck rfl) ?_
  refine G.yld (by decide) (Yld.fieldAddr Try_fo87_1 rfl) ?_
  refine G.yld (by decide) (Yld.load rfl Try.isAgg85 (by repeat (first | with_reducible exact Pick.here | with_reducible apply Pick.there)) rfl) ?_
  refine G.yld (by decide) (Yld.len_slice Try.runUnderlying85 rfl) ?_
  refine G.yld (by decide) (Yld.move rfl) ?_
  refine G.done ?_
  refine G.block ?_
  refine G.loopE (X := Nat × Fm) (fun x => [(0, ptr b), (1, vU32 now), (4, ptr b4), (11, .slice a f.ps.length cap), (12, vI f.ps.length), (13, vI x.1)]) (fun x => [lift (x.1 ≤ f.ps.length ∧ Walked f x.2 ∧ Fm.againK now (f.ps.length - x.1) x.1 x.2 = f.again now), cel true b4 36 [.int .u8 0, .bool false, .bool false, .bool false, .bool false, .int .u32 0, .int .u16 0, .int .u32 0, .int .u32 0, .int .u32 0, .int .u32 0, .int .u32 0, .int .u16 0, .int .u16 0, .slice none 0 0, .slice none 0 0, .slice none 0 0, .slice none 0 0, .slice none 0 0], cel true b 87 [vU32 x.2.mark, .slice a f.ps.length cap, .map (some r)], sl true 1 (.slice a f.ps.length cap) f.ps.length (ptc bs), isPs bs x.2.ps, mapA encI r (goneC x.2.gone)]) (fun x => f.ps.length - x.1) (0, f) (.cons (t := 0) rfl (.cons (t := 1) rfl (.cons (t := 4) rfl (.cons (t := 11) rfl (.cons (t := 12) rfl (.cons (t := 13) rfl .nil)))))) (.cons (.lift ⟨Nat.zero_le _, Walked.refl hf, rfl⟩) (Ents.of_picks (.cons (by repeat (first | with_reducible exact Pick.here | with_reducible apply Pick.there)) (.cons (by repeat (first | with_reducible exact Pick.here | with_reducible apply Pick.there)) (.cons (by repeat (first | with_reducible exact Pick.here | with_reducible apply Pick.there)) (.cons (by repeat (first | with_reducible exact Pick.here | with_reducible apply Pick.there)) (.cons (by repeat (first | with_reducible exact Pick.here | with_reducible apply Pick.there)) .nil))))))) fun x => ?_
  obtain ⟨k, g⟩ := x
  refine G.lift fun hI => ?_
  obtain ⟨hk, hw, hres⟩ := hI
  dsimp only at hk hw hres ⊢
  have hgl := hw.len
  refine G.seq ?_
  refine G.region ?_
  refine G.yld (by decide) (Yld.lss_i rfl rfl) ?_
  refine G.done ?_
  refine G.seq ?_
  refine G.condP rfl (fun hlt => ?_) (fun hlt => ?_)
  · refine G.fact (A := isPs bs _) (by repeat (first | with_reducible exact Pick.here | with_reducible apply Pick.there)) (fun _ h => isPs_len h) fun hlb => ?_
    obtain ⟨bk, hbk⟩ : ∃ b, bs[k]? = some b := ⟨bs[k]'(by omega), by simp⟩
    obtain ⟨p, hp⟩ : ∃ p, g.ps[k]? = some p := ⟨g.ps[k]'(by omega), by simp⟩
    have hbd := hw.body p (List.mem_of_getElem? hp)
    refine G.pick (A := sl _ _ _ _ _) (by repeat (first | with_reducible exact Pick.here | with_reducible apply Pick.there)) (G.slice (fun a0 hv hn hc => by omega) (fun bb T off cap2 pre post hv hpre hcs hpost hle2 => ?_))
    cases hv
    refine G.skip ?_
    refine G.seq ?_
    refine G.block ?_
    refine G.seq ?_
    refine G.region ?_
    refine G.yld (by decide) (Yld.indexAddr Try.runUnderlying85 Try.sizeOf89 rfl rfl (by omega) (by omega)) ?_
    refine G.yld (by decide) (Yld.load rfl Try.isAgg89 (by repeat (first | with_reducible exact Pick.here | with_reducible apply Pick.there)) (ptc_at hpre hbk)) ?_
    refine G.yld (by decide) (Yld.assign rfl) ?_
    refine G.done ?_
    refine G.seq ?_
    refine G.seq ?_
    refine G.conv (A := isPs bs _) (by repeat (first | with_reducible exact Pick.here | with_reducible apply Pick.there)) (isPs_split hbk hp) ?_
    refine G.star3 ?_
    refine G.ex fun bv => G.star ?_
    refine G.region ?_
    refine G.yld (by decide) (Yld.move rfl) ?_
    refine G.yld (by decide) (Yld.nilCheck rfl) ?_
    refine G.yld (by decide) (Yld.fieldAddr Try_fo93_6 rfl) ?_
    refine G.yld (by decide) (Yld.load rfl Try.isAgg91 (by repeat (first | with_reducible exact Pick.here | with_reducible apply Pick.there)) rfl) ?_
    refine G.yld (by decide) (Yld.neq_i (b := (1 : Int)) rfl rfl) ?_
    refine G.done ?_
    refine G.condP rfl (fun hhow => ?_) (fun hhow => ?_)
    · refine G.exit ?_
      refine G.x_exit_block (G.x_then ?_)
      refine G.region ?_
      refine G.yld (by decide) (Yld.add_i (b := (1 : Int)) rfl rfl (by omega)) ?_
      refine G.yld (by decide) (Yld.move rfl) ?_
      refine G.done ?_
      refine G.nil ?_
      refine G.x_then ?_
      exact G.againE (k + 1, g) (by show f.ps.length - (k + 1) < f.ps.length - k; omega) (.cons (t := 0) rfl (.cons (t := 1) rfl (.cons (t := 4) rfl (.cons (t := 11) rfl (.cons (t := 12) rfl (.cons (t := 13) rfl .nil)))))) (.cons (.lift ⟨by omega, hw, (againK_skip (by omega) hp hhow).symm.trans hres⟩) (.cons (.pick (by repeat (first | with_reducible exact Pick.here | with_reducible apply Pick.there))) (.cons (.pick (by repeat (first | with_reducible exact Pick.here | with_reducible apply Pick.there))) (.cons (.imp (.pick (A := cel _ bb _ _) (by repeat (first | with_reducible exact Pick.here | with_reducible apply Pick.there))) fun _ h => .inr ⟨bb, T, off, _, pre, post, rfl, hpre, hcs, hpost, hle2, h⟩) (.cons (entPs hbk (p' := p) (entP (.pick (A := sl false _ bv _ _) (by repeat (first | with_reducible exact Pick.here | with_reducible apply Pick.there))) (.pick (A := cel _ bk _ _) (by repeat (first | with_reducible exact Pick.here | with_reducible apply Pick.there))) rfl) (.pick (A := isPs (bs.take k) _) (by repeat (first | with_reducible exact Pick.here | with_reducible apply Pick.there))) (.pick (A := isPs (bs.drop (k + 1)) _) (by repeat (first | with_reducible exact Pick.here | with_reducible apply Pick.there))) (set_same hp) (by show k < g.ps.length; omega)) (.cons (.pick (by repeat (first | with_reducible exact Pick.here | with_reducible apply Pick.there))) .nil))))))
    · have hhow1 : p.how = 1 := by omega
      refine G.skip ?_
      refine G.seq ?_
      refine G.seq ?_
      refine G.cutB (t := 40) (v := .bool (decide (p.spent))) (.cons (t := 0) rfl (.cons (t := 1) rfl (.cons (t := 4) rfl (.cons (t := 7) rfl (.cons (t := 11) rfl (.cons (t := 12) rfl (.cons (t := 13) rfl .nil))))))) ?_ ?_
      · refine G.draw Try_mixed (.still 0 (.still 1 (.still 2 (.still 3 (.still 4 (.still 5 (.still 6 (.still 7 (.still 8 (.still 9 (.still 10 (.still 11 (.still 12 (.still 13 (.still 14 (.still 15 (.still 16 (.still 17 (.still 18 (.done)))))))))))))))))))) (by kernel_rfl) (.cons (A := cel _ bk _ _) (by repeat (first | with_reducible exact Pick.here | with_reducible apply Pick.there)) .nil) ?_
        refine GO.yld (i := 0) rfl (by decide) (Yld.move rfl) ?_
        refine GO.yld (i := 1) rfl (by decide) (Yld.nilCheck rfl) ?_
        refine GO.yld (i := 2) rfl (by decide) (Yld.fieldAddr Try_fo93_2 rfl) ?_
        refine GO.yld (i := 3) rfl (by decide) (Yld.fieldAddr Try_fo46_0 rfl) ?_
        refine GO.yld (i := 4) rfl (by decide) (Yld.load rfl Try.isAgg44 (by repeat (first | with_reducible exact Pick.here | with_reducible apply Pick.there)) rfl) ?_
        refine GO.yld (i := 5) rfl (by decide) (Yld.eql_i (b := (1 : Int)) rfl rfl) ?_
        refine GO.yld (i := 6) rfl (by decide) (Yld.move rfl) ?_
        refine GO.splitB (t := 28) rfl (fun hlk => ?_) (fun hlk => ?_)
        · refine GO.yldG (i := 7) rfl (by decide) rfl rfl (Yld.move rfl) ?_
          refine GO.yldG (i := 8) rfl (by decide) rfl rfl (Yld.nilCheck rfl) ?_
          refine GO.yldG (i := 9) rfl (by decide) rfl rfl (Yld.fieldAddr Try_fo93_3 rfl) ?_
          refine GO.yldG (i := 10) rfl (by decide) rfl rfl (Yld.load rfl Try.isAgg90 (by repeat (first | with_reducible exact Pick.here | with_reducible apply Pick.there)) rfl) ?_
          refine GO.yldG (i := 11) rfl (by decide) rfl rfl (Yld.move rfl) ?_
          refine GO.yldG (i := 12) rfl (by decide) rfl rfl (Yld.nilCheck rfl) ?_
          refine GO.yldG (i := 13) rfl (by decide) rfl rfl (Yld.fieldAddr Try_fo93_2 rfl) ?_
          refine GO.yldG (i := 14) rfl (by decide) rfl rfl (Yld.fieldAddr Try_fo46_1 rfl) ?_
          refine GO.yldG (i := 15) rfl (by decide) rfl rfl (Yld.load rfl Try.isAgg22 (by repeat (first | with_reducible exact Pick.here | with_reducible apply Pick.there)) rfl) ?_
          refine GO.yldG (i := 16) rfl (by decide) rfl rfl (Yld.conv_u32_u64 Try.runUnderlying22 Try.runUnderlying90 rfl) ?_
          refine GO.yldG (i := 17) rfl (by decide) rfl rfl (Yld.gtr_u64 rfl rfl) ?_
          refine GO.yld (i := 18) rfl (by decide) (Yld.pickT rfl rfl) ?_
          refine GO.done ?_
          refine G.nil ?_
          exact G.cutEnd (.as (t := 40) rfl (congrArg Value.bool (by simp [*])) (.cons (t := 0) rfl (.cons (t := 1) rfl (.cons (t := 4) rfl (.cons (t := 7) rfl (.cons (t := 11) rfl (.cons (t := 12) rfl (.cons (t := 13) rfl .nil)))))))) (.cons (by repeat (first | with_reducible exact Pick.here | with_reducible apply Pick.there)) (.cons (by repeat (first | with_reducible exact Pick.here | with_reducible apply Pick.there)) (.cons (by repeat (first | with_reducible exact Pick.here | with_reducible apply Pick.there)) (.cons (by repeat (first | with_reducible exact Pick.here | with_reducible apply Pick.there)) (.cons (by repeat (first | with_reducible exact Pick.here | with_reducible apply Pick.there)) (.cons (by repeat (first | with_reducible exact Pick.here | with_reducible apply Pick.there)) (.cons (by repeat (first | with_reducible exact Pick.here | with_reducible apply Pick.there)) (.cons (by repeat (first | with_reducible exact Pick.here | with_reducible apply Pick.there)) .nil))))))))
        · refine GO.skipG (i := 7) rfl (by decide) rfl rfl rfl ?_
          refine GO.skipG (i := 8) rfl (by decide) rfl rfl rfl ?_
          refine GO.skipG (i := 9) rfl (by decide) rfl rfl rfl ?_
          refine GO.skipG (i := 10) rfl (by decide) rfl rfl rfl ?_
          refine GO.skipG (i := 11) rfl (by decide) rfl rfl rfl ?_
          refine GO.skipG (i := 12) rfl (by decide) rfl rfl rfl ?_
          refine GO.skipG (i := 13) rfl (by decide) rfl rfl rfl ?_
          refine GO.skipG (i := 14) rfl (by decide) rfl rfl rfl ?_
          refine GO.skipG (i := 15) rfl (by decide) rfl rfl rfl ?_
          refine GO.skipG (i := 16) rfl (by decide) rfl rfl rfl ?_
          refine GO.skipG (i := 17) rfl (by decide) rfl rfl rfl ?_
          refine GO.yld (i := 18) rfl (by decide) (Yld.pickF rfl rfl) ?_
          refine GO.done ?_
          refine G.nil ?_
          exact G.cutEnd (.as (t := 40) rfl (congrArg Value.bool (by simp [*])) (.cons (t := 0) rfl (.cons (t := 1) rfl (.cons (t := 4) rfl (.cons (t := 7) rfl (.cons (t := 11) rfl (.cons (t := 12) rfl (.cons (t := 13) rfl .nil)))))))) (.cons (by repeat (first | with_reducible exact Pick.here | with_reducible apply Pick.there)) (.cons (by repeat (first | with_reducible exact Pick.here | with_reducible apply Pick.there)) (.cons (by repeat (first | with_reducible exact Pick.here | with_reducible apply Pick.there)) (.cons (by repeat (first | with_reducible exact Pick.here | with_reducible apply Pick.there)) (.cons (by repeat (first | with_reducible exact Pick.here | with_reducible apply Pick.there)) (.cons (by repeat (first | with_reducible exact Pick.here | with_reducible apply Pick.there)) (.cons (by repeat (first | with_reducible exact Pick.here | with_reducible apply Pick.there)) (.cons (by repeat (first | with_reducible exact Pick.here | with_reducible apply Pick.there)) .nil))))))))
      refine G.condP rfl (fun hsp => ?_) (fun hsp => ?_)
      · refine G.seq ?_
        refine G.region ?_
        refine G.yld (by decide) (Yld.move rfl) ?_
        refine G.yld (by decide) (Yld.move rfl) ?_
        refine G.yld (by decide) (Yld.nilCheck rfl) ?_
        refine G.yld (by decide) (Yld.fieldAddr Try_fo93_1 rfl) ?_
        refine G.yld (by decide) (Yld.load rfl Try.isAgg3 (by repeat (first | with_reducible exact Pick.here | with_reducible apply Pick.there)) rfl) ?_
        refine G.fold (A := isPs bs g.ps) (entPs hbk (p' := p) (entP (.pick (A := sl false _ bv _ _) (by repeat (first | with_reducible exact Pick.here | with_reducible apply Pick.there))) (.pick (A := cel _ bk _ _) (by repeat (first | with_reducible exact Pick.here | with_reducible apply Pick.there))) rfl) (.pick (A := isPs (bs.take k) _) (by repeat (first | with_reducible exact Pick.here | with_reducible apply Pick.there))) (.pick (A := isPs (bs.drop (k + 1)) _) (by repeat (first | with_reducible exact Pick.here | with_reducible apply Pick.there))) (set_same hp) (by show k < g.ps.length; omega)) ?_
        refine G.fold (A := sl true 1 (.slice (some ⟨bb, off, none⟩) f.ps.length cap) f.ps.length (ptc bs)) (.imp (.pick (A := cel _ bb _ _) (by repeat (first | with_reducible exact Pick.here | with_reducible apply Pick.there))) fun _ h => .inr ⟨bb, T, off, _, pre, post, rfl, hpre, hcs, hpost, hle2, h⟩) ?_
        refine G.opc (by decide) (OpC.call Try.call41 rfl (give_spec b g _ _ bs r f.ps.length hgl (by omega)) (.cons (by repeat (first | with_reducible exact Pick.here | with_reducible apply Pick.there)) (.cons (by repeat (first | with_reducible exact Pick.here | with_reducible apply Pick.there)) (.cons (by repeat (first | with_reducible exact Pick.here | with_reducible apply Pick.there)) (.cons (by repeat (first | with_reducible exact Pick.here | with_reducible apply Pick.there)) .nil))))) fun _ => ?_
        refine G.star4 ?_
        refine G.done ?_
        refine G.exit ?_
        refine G.x_exit_block (G.x_then ?_)
        refine G.region ?_
        refine G.yld (by decide) (Yld.add_i (b := (1 : Int)) rfl rfl (by omega)) ?_
        refine G.yld (by decide) (Yld.move rfl) ?_
        refine G.done ?_
        refine G.nil ?_
        refine G.x_then ?_
        exact G.againE (k + 1, g.give p.m) (by show f.ps.length - (k + 1) < f.ps.length - k; omega) (.cons (t := 0) rfl (.cons (t := 1) rfl (.cons (t := 4) rfl (.cons (t := 11) rfl (.cons (t := 12) rfl (.cons (t := 13) rfl .nil)))))) (.cons (.lift ⟨by omega, hw.give _ (hw.rng.1 p (List.mem_of_getElem? hp)), (againK_give (by omega) hp hhow1 hsp).symm.trans hres⟩) (.cons (.pick (by repeat (first | with_reducible exact Pick.here | with_reducible apply Pick.there))) (.cons (.pick (by repeat (first | with_reducible exact Pick.here | with_reducible apply Pick.there))) (.cons (.pick (by repeat (first | with_reducible exact Pick.here | with_reducible apply Pick.there))) (.cons (.pick (by repeat (first | with_reducible exact Pick.here | with_reducible apply Pick.there))) (.cons (.pick (by repeat (first | with_reducible exact Pick.here | with_reducible apply Pick.there))) .nil))))))
      · refine G.skip ?_
        refine G.seq ?_
        refine G.region ?_
        refine G.yld (by decide) (Yld.move rfl) ?_
        refine G.yld (by decide) (Yld.move rfl) ?_
        refine G.yld (by decide) (Yld.move rfl) ?_
        refine G.yld (by decide) (Yld.move rfl) ?_
        refine G.yld (by decide) (Yld.nilCheck rfl) ?_
        refine G.yld (by decide) (Yld.fieldAddr Try_fo93_6 rfl) ?_
        refine G.op0  (OpC.store Try.sizeOf91 rfl rfl rfl (by repeat (first | with_reducible exact Pick.here | with_reducible apply Pick.there)) rfl (Nat.le_of_ble_eq_true rfl)) fun _ => ?_
        refine G.yld (by decide) (Yld.nilCheck rfl) ?_
        refine G.yld (by decide) (Yld.fieldAddr Try_fo93_5 rfl) ?_
        refine G.op0  (OpC.store Try.sizeOf3 rfl rfl rfl (by repeat (first | with_reducible exact Pick.here | with_reducible apply Pick.there)) rfl (Nat.le_of_ble_eq_true rfl)) fun _ => ?_
        refine G.yld (by decide) (Yld.nilCheck rfl) ?_
        refine G.yld (by decide) (Yld.fieldAddr Try_fo93_4 rfl) ?_
        refine G.op0  (OpC.store Try.sizeOf22 rfl rfl rfl (by repeat (first | with_reducible exact Pick.here | with_reducible apply Pick.there)) rfl (Nat.le_of_ble_eq_true rfl)) fun _ => ?_
        refine G.done ?_
        refine G.seq ?_
        refine G.region ?_
        refine G.yld (by decide) (Yld.move rfl) ?_
        refine G.yld (by decide) (Yld.nilCheck rfl) ?_
        refine G.yld (by decide) (Yld.fieldAddr Try_fo93_3 rfl) ?_
        refine G.yld (by decide) (Yld.load rfl Try.isAgg90 (by repeat (first | with_reducible exact Pick.here | with_reducible apply Pick.there)) rfl) ?_
        refine G.yld (by decide) (Yld.add_u64 (b := (1 : UInt64)) rfl rfl) ?_
        refine G.yld (by decide) (Yld.nilCheck rfl) ?_
        refine G.yld (by decide) (Yld.fieldAddr Try_fo93_3 rfl) ?_
        refine G.op0  (OpC.store Try.sizeOf90 rfl rfl rfl (by repeat (first | with_reducible exact Pick.here | with_reducible apply Pick.there)) rfl (Nat.le_of_ble_eq_true rfl)) fun _ => ?_
        refine G.done ?_
        refine G.seq ?_
        refine G.region ?_
        refine G.yld (by decide) (Yld.move rfl) ?_
        refine G.yld (by decide) (Yld.nilCheck rfl) ?_
        refine G.yld (by decide) (Yld.fieldAddr Try_fo93_0 rfl) ?_
        refine G.yld (by decide) (Yld.loadAgg (cs := [_, _, _, _, _, _, _, _, _, _, _, _, _, _, _, _, _, _, _]) rfl Try.isAgg36 Try.sizeOf36 (by repeat (first | with_reducible exact Pick.here | with_reducible apply Pick.there)) rfl (aggAt rfl)) ?_
        refine G.opc (by decide) (OpC.call Try.call39 rfl (own_spec p.c _ p.body hbd) (.cons (A := sl false _ bv _ _) (by repeat (first | with_reducible exact Pick.here | with_reducible apply Pick.there)) .nil)) fun v => ?_
        refine G.ex fun bv2 => ?_
        refine G.star ?_
        refine G.lift ?_
        rintro rfl
        refine G.star ?_
        refine G.fact (A := sl true _ bv2 _ _) (by repeat (first | with_reducible exact Pick.here | with_reducible apply Pick.there)) sl_cell fun hbv2 => ?_
        refine G.op0  (OpC.storeAgg (k := 19) Try.sizeOf36 rfl rfl rfl (by simp only [List.all_cons, List.all_nil, hbv2]; rfl) (by repeat (first | with_reducible exact Pick.here | with_reducible apply Pick.there)) (setWhole rfl) (Nat.le_of_ble_eq_true rfl)) fun _ => ?_
        refine G.yld (by decide) (Yld.assign rfl) ?_
        refine G.done ?_
        refine G.ret ?_
        refine G.x_ret_block (G.x_ret_then ?_)
        refine G.x_ret_then (G.x_ret_then ?_)
        refine G.unframe (by repeat (first | exact App.nil | apply App.cons)) ?_
        refine G.x_ret_block (G.x_ret_then ?_)
        have hR := hres.symm.trans (againK_hit (now := now) (by omega) hp hhow1 hsp)
        rw [hR]
        refine G.ret2 (.inr rfl) Try.results19 (.agg (cs := [_, _, _, _, _, _, _, _, _, _, _, _, _, _, _, _, _, _, _]) rfl Try.isAgg36 Try.sizeOf36 (by repeat (first | with_reducible exact Pick.here | with_reducible apply Pick.there)) rfl (aggAt rfl)) (.tmp rfl) ?_
        exact ⟨_, (.ex bv2 (.star (.lift rfl) (.star (.imp (.pick (A := sl true 1 bv2 p.body.length (byc p.body)) (by repeat (first | with_reducible exact Pick.here | with_reducible apply Pick.there))) fun _ h => h) (entF (f := { g with ps := g.ps.set k (p.anew now) }) (.pick (A := cel _ b _ _) (by repeat (first | with_reducible exact Pick.here | with_reducible apply Pick.there))) (.imp (.pick (A := cel _ bb _ _) (by repeat (first | with_reducible exact Pick.here | with_reducible apply Pick.there))) fun _ h => .inr ⟨bb, T, off, _, pre, post, rfl, hpre, hcs, hpost, hle2, h⟩) (by simp [hgl]) (entPs hbk (p' := p.anew now) (entP (.pick (A := sl false _ bv _ _) (by repeat (first | with_reducible exact Pick.here | with_reducible apply Pick.there))) (.pick (A := cel _ bk _ _) (by repeat (first | with_reducible exact Pick.here | with_reducible apply Pick.there))) (by rfl)) (.pick (A := isPs (bs.take k) _) (by repeat (first | with_reducible exact Pick.here | with_reducible apply Pick.there))) (.pick (A := isPs (bs.drop (k + 1)) _) (by repeat (first | with_reducible exact Pick.here | with_reducible apply Pick.there))) rfl (by show k < g.ps.length; omega)) (.pick (by repeat (first | with_reducible exact Pick.here | with_reducible apply Pick.there)))))))⟩
  · have hR := hres.symm.trans (againK_end (by omega))
    refine G.exit ?_
    refine G.x_exit_then (G.x_exit_then ?_)
    refine G.x_exit_block (G.x_then ?_)
    refine G.unframe (by repeat (first | exact App.nil | apply App.cons)) ?_
    refine G.seq ?_
    refine G.region ?_
    refine G.yld (by decide) (Yld.buildS (cs := [_, _, _, _, _, _, _, _, _, _, _, _, _, _, _, _, _, _, _]) Try_z36 Try_pl36 rfl rfl .nil rfl) ?_
    refine G.op0  (OpC.storeAgg (k := 19) Try.sizeOf36 rfl rfl rfl rfl (by repeat (first | with_reducible exact Pick.here | with_reducible apply Pick.there)) (setWhole rfl) (Nat.le_of_ble_eq_true rfl)) fun _ => ?_
    refine G.yld (by decide) (Yld.assign rfl) ?_
    refine G.done ?_
    refine G.ret ?_
    rw [hR]
    refine G.ret2 (.inr rfl) Try.results19 (.agg (cs := [_, _, _, _, _, _, _, _, _, _, _, _, _, _, _, _, _, _, _]) rfl Try.isAgg36 Try.sizeOf36 (by repeat (first | with_reducible exact Pick.here | with_reducible apply Pick.there)) rfl (aggAt rfl)) (.tmp rfl) ?_
    exact ⟨_, (.ex nilS (.star (.lift rfl) (.star (.imp .emp fun _ _ => sl_nil) (entF (f := g) (.pick (A := cel _ b _ _) (by repeat (first | with_reducible exact Pick.here | with_reducible apply Pick.there))) (.pick (by repeat (first | with_reducible exact Pick.here | with_reducible apply Pick.there))) hgl.symm (.pick (by repeat (first | with_reducible exact Pick.here | with_reducible apply Pick.there))) (.pick (by repeat (first | with_reducible exact Pick.here | with_reducible apply Pick.there)))))))⟩
theorem keys_spec (r : Nat) : Sl.Spec Try.prog 43 [.map (some r)].toArray [] (fun v => ex fun b => star (lift (v = .func (.func 76) #[] #[ptr b])) (cel true b 84 [.map (some r)])) := by
  refine Sl.Spec.of_body (vs := [.map (some r)]) Try.func43 Try.ntmps43 (Nat.le_of_ble_eq_true rfl) rfl fun w0 F => ?_
  refine G.seq ?_
  refine G.region ?_
  refine G.opc (by decide) (OpC.box (cs := [_]) rfl rfl) fun b1 => ?_
  refine G.yld (by decide) (Yld.assign rfl) ?_
  refine G.done ?_
  refine G.seq ?_
  refine G.region ?_
  refine G.yld (by decide) (Yld.makeFunc (vs := [_]) rfl) ?_
  refine G.yld (by decide) (Yld.assign rfl) ?_
  refine G.done ?_
  refine G.ret ?_
  refine G.ret1 (.inr rfl) Try.results43 (.tmp rfl) ?_
  exact ⟨_, (.ex b1 (.star (.lift rfl) (.pick (by repeat (first | with_reducible exact Pick.here | with_reducible apply Pick.there)))))⟩
/-- what slices.Sorted does with the keys of a map (a claim about the library: shown elsewhere) -/
def SortedKeys : Prop := ∀ (r b : Nat) (l : List Int), l.length ≤ 1000000000 → l.Nodup → (∀ k ∈ l, Rng k) → Sl.Spec Try.prog 42 [.func (.func 76) #[] #[ptr b]].toArray [cel true b 84 [.map (some r)], mapA encI r (goneC l)] (fun v => star (sl true 1 v l.length (vIs (sortI l))) (mapA encI r (goneC l)))
theorem expire_spec (hsk : SortedKeys) (b : Nat) (f : Fm) (now : UInt32) (hf : f.ok) (hgone : (f.expireG now).gone.length ≤ 1000000000) : Sl.Spec Try.prog 15 [ptr b, vU32 now].toArray [isF b f] (fun v => star (sl true 1 v (f.expire now).1.length (vIs (f.expire now).1)) (isF b (f.expire now).2)) := by
  refine Sl.Spec.of_body (vs := [ptr b, vU32 now]) Try.func15 Try.ntmps15 (Nat.le_of_ble_eq_true rfl) rfl fun w0 F => ?_
  have hsmall := hf.len
  refine G.seq ?_
  refine G.region ?_
  refine G.yld (by decide) (Yld.assign rfl) ?_
  refine G.done ?_
  refine G.seq ?_
  refine G.seq ?_
  refine G.openF fun v bs r hlen => ?_
  refine G.pick (A := sl true 1 v _ _) (by repeat (first | with_reducible exact Pick.here | with_reducible apply Pick.there)) (G.slv fun a cap hv hle hl => ?_)
  obtain rfl := hv
  refine G.region ?_
  refine G.yld (by decide) (Yld.move rfl) ?_
  refine G.yld (by decide) (Yld.nilCheck rfl) ?_
  refine G.yld (by decide) (Yld.fieldAddr Try_fo87_1 rfl) ?_
  refine G.yld (by decide) (Yld.load rfl Try.isAgg85 (by repeat (first | with_reducible exact Pick.here | with_reducible apply Pick.there)) rfl) ?_
  refine G.yld (by decide) (Yld.len_slice Try.runUnderlying85 rfl) ?_
  refine G.yld (by decide) (Yld.move rfl) ?_
  refine G.done ?_
  refine G.block ?_
  refine G.loopE (X := Nat × Fm) (fun x => [(0, ptr b), (1, vU32 now), (11, .slice a f.ps.length cap), (12, vI f.ps.length), (13, vI x.1)]) (fun x => [lift (x.1 ≤ f.ps.length ∧ Walked f x.2 ∧ Fm.expK now (f.ps.length - x.1) x.1 x.2 = f.expireG now), cel true b 87 [vU32 x.2.mark, .slice a f.ps.length cap, .map (some r)], sl true 1 (.slice a f.ps.length cap) f.ps.length (ptc bs), isPs bs x.2.ps, mapA encI r (goneC x.2.gone)]) (fun x => f.ps.length - x.1) (0, f) (.cons (t := 0) rfl (.cons (t := 1) rfl (.cons (t := 11) rfl (.cons (t := 12) rfl (.cons (t := 13) rfl .nil))))) (.cons (.lift ⟨Nat.zero_le _, Walked.refl hf, rfl⟩) (Ents.of_picks (.cons (by repeat (first | with_reducible exact Pick.here | with_reducible apply Pick.there)) (.cons (by repeat (first | with_reducible exact Pick.here | with_reducible apply Pick.there)) (.cons (by repeat (first | with_reducible exact Pick.here | with_reducible apply Pick.there)) (.cons (by repeat (first | with_reducible exact Pick.here | with_reducible apply Pick.there)) .nil)))))) fun x => ?_
  obtain ⟨k, g⟩ := x
  refine G.lift fun hI => ?_
  obtain ⟨hk, hw, hres⟩ := hI
  dsimp only at hk hw hres ⊢
  have hgl := hw.len
  refine G.seq ?_
  refine G.region ?_
  refine G.yld (by decide) (Yld.lss_i rfl rfl) ?_
  refine G.done ?_
  refine G.seq ?_
  refine G.condP rfl (fun hlt => ?_) (fun hlt => ?_)
  · refine G.fact (A := isPs bs _) (by repeat (first | with_reducible exact Pick.here | with_reducible apply Pick.there)) (fun _ h => isPs_len h) fun hlb => ?_
    obtain ⟨bk, hbk⟩ : ∃ b, bs[k]? = some b := ⟨bs[k]'(by omega), by simp⟩
    obtain ⟨p, hp⟩ : ∃ p, g.ps[k]? = some p := ⟨g.ps[k]'(by omega), by simp⟩
    refine G.pick (A := sl _ _ _ _ _) (by repeat (first | with_reducible exact Pick.here | with_reducible apply Pick.there)) (G.slice (fun a0 hv hn hc => by omega) (fun bb T off cap2 pre post hv hpre hcs hpost hle2 => ?_))
    cases hv
    refine G.skip ?_
    refine G.seq ?_
    refine G.block ?_
    refine G.seq ?_
    refine G.region ?_
    refine G.yld (by decide) (Yld.indexAddr Try.runUnderlying85 Try.sizeOf89 rfl rfl (by omega) (by omega)) ?_
    refine G.yld (by decide) (Yld.load rfl Try.isAgg89 (by repeat (first | with_reducible exact Pick.here | with_reducible apply Pick.there)) (ptc_at hpre hbk)) ?_
    refine G.yld (by decide) (Yld.assign rfl) ?_
    refine G.done ?_
    refine G.seq ?_
    refine G.conv (A := isPs bs _) (by repeat (first | with_reducible exact Pick.here | with_reducible apply Pick.there)) (isPs_split hbk hp) ?_
    refine G.star3 ?_
    refine G.cutB (t := 35) (v := .bool (decide (p.over now))) (.cons (t := 0) rfl (.cons (t := 1) rfl (.cons (t := 6) rfl (.cons (t := 11) rfl (.cons (t := 12) rfl (.cons (t := 13) rfl .nil)))))) ?_ ?_
    · refine G.region ?_
      refine G.yld (by decide) (Yld.move rfl) ?_
      refine G.opc (by decide) (OpC.call Try.call40 rfl (open_spec _ _) (.cons (A := isP bk p) (by repeat (first | with_reducible exact Pick.here | with_reducible apply Pick.there)) .nil)) fun v => ?_
      refine G.star ?_
      refine G.lift ?_
      rintro rfl
      refine G.ex fun bv => G.star ?_
      refine G.yld (by decide) (Yld.move rfl) ?_
      refine G.splitB (t := 19) rfl (fun hop => ?_) (fun hop => ?_)
      · refine G.yldG (by decide) rfl rfl (Yld.move rfl) ?_
        refine G.yldG (by decide) rfl rfl (Yld.nilCheck rfl) ?_
        refine G.yldG (by decide) rfl rfl (Yld.fieldAddr Try_fo93_2 rfl) ?_
        refine G.yldG (by decide) rfl rfl (Yld.fieldAddr Try_fo46_0 rfl) ?_
        refine G.yldG (by decide) rfl rfl (Yld.load rfl Try.isAgg44 (by repeat (first | with_reducible exact Pick.here | with_reducible apply Pick.there)) rfl) ?_
        refine G.yldG (by decide) rfl rfl (Yld.eql_i (b := (2 : Int)) rfl rfl) ?_
        refine G.yld (by decide) (Yld.pickT rfl rfl) ?_
        refine G.yld (by decide) (Yld.move rfl) ?_
        refine G.splitB (t := 27) rfl (fun hlk => ?_) (fun hlk => ?_)
        · refine G.yldG (by decide) rfl rfl (Yld.move rfl) ?_
          refine G.yldG (by decide) rfl rfl (Yld.nilCheck rfl) ?_
          refine G.yldG (by decide) rfl rfl (Yld.fieldAddr Try_fo93_2 rfl) ?_
          refine G.yldG (by decide) rfl rfl (Yld.fieldAddr Try_fo46_1 rfl) ?_
          refine G.yldG (by decide) rfl rfl (Yld.load rfl Try.isAgg22 (by repeat (first | with_reducible exact Pick.here | with_reducible apply Pick.there)) rfl) ?_
          refine G.yldG (by decide) rfl rfl (Yld.move rfl) ?_
          refine G.opG (by decide) rfl rfl (OpC.call Try.call28 rfl (less_spec _ _) .nil) fun v => ?_
          refine G.lift ?_
          rintro rfl
          refine G.yld (by decide) (Yld.pickT rfl rfl) ?_
          refine G.fold (A := isP bk p) (entP (.pick (A := sl false _ bv _ _) (by repeat (first | with_reducible exact Pick.here | with_reducible apply Pick.there))) (.pick (A := cel _ bk _ _) (by repeat (first | with_reducible exact Pick.here | with_reducible apply Pick.there))) rfl) ?_
          refine G.done ?_
          refine G.nil ?_
          exact G.cutEnd (.as (t := 35) rfl (congrArg Value.bool (by simp [Piece.over, Piece.isOpen, *])) (.cons (t := 0) rfl (.cons (t := 1) rfl (.cons (t := 6) rfl (.cons (t := 11) rfl (.cons (t := 12) rfl (.cons (t := 13) rfl .nil))))))) (.cons (by repeat (first | with_reducible exact Pick.here | with_reducible apply Pick.there)) (.cons (by repeat (first | with_reducible exact Pick.here | with_reducible apply Pick.there)) (.cons (by repeat (first | with_reducible exact Pick.here | with_reducible apply Pick.there)) (.cons (by repeat (first | with_reducible exact Pick.here | with_reducible apply Pick.there)) (.cons (by repeat (first | with_reducible exact Pick.here | with_reducible apply Pick.there)) (.cons (by repeat (first | with_reducible exact Pick.here | with_reducible apply Pick.there)) .nil))))))
        · refine G.skipG (by decide) rfl rfl rfl ?_
          refine G.skipG (by decide) rfl rfl rfl ?_
          refine G.skipG (by decide) rfl rfl rfl ?_
          refine G.skipG (by decide) rfl rfl rfl ?_
          refine G.skipG (by decide) rfl rfl rfl ?_
          refine G.skipG (by decide) rfl rfl rfl ?_
          refine G.skipG (by decide) rfl rfl rfl ?_
          refine G.yld (by decide) (Yld.pickF rfl rfl) ?_
          refine G.fold (A := isP bk p) (entP (.pick (A := sl false _ bv _ _) (by repeat (first | with_reducible exact Pick.here | with_reducible apply Pick.there))) (.pick (A := cel _ bk _ _) (by repeat (first | with_reducible exact Pick.here | with_reducible apply Pick.there))) rfl) ?_
          refine G.done ?_
          refine G.nil ?_
          exact G.cutEnd (.as (t := 35) rfl (congrArg Value.bool (by simp [Piece.over, Piece.isOpen, *])) (.cons (t := 0) rfl (.cons (t := 1) rfl (.cons (t := 6) rfl (.cons (t := 11) rfl (.cons (t := 12) rfl (.cons (t := 13) rfl .nil))))))) (.cons (by repeat (first | with_reducible exact Pick.here | with_reducible apply Pick.there)) (.cons (by repeat (first | with_reducible exact Pick.here | with_reducible apply Pick.there)) (.cons (by repeat (first | with_reducible exact Pick.here | with_reducible apply Pick.there)) (.cons (by repeat (first | with_reducible exact Pick.here | with_reducible apply Pick.there)) (.cons (by repeat (first | with_reducible exact Pick.here | with_reducible apply Pick.there)) (.cons (by repeat (first | with_reducible exact Pick.here | with_reducible apply Pick.there)) .nil))))))
      · refine G.skipG (by decide) rfl rfl rfl ?_
        refine G.skipG (by decide) rfl rfl rfl ?_
        refine G.skipG (by decide) rfl rfl rfl ?_
        refine G.skipG (by decide) rfl rfl rfl ?_
        refine G.skipG (by decide) rfl rfl rfl ?_
        refine G.skipG (by decide) rfl rfl rfl ?_
        refine G.yld (by decide) (Yld.pickF rfl rfl) ?_
        refine G.yld (by decide) (Yld.move rfl) ?_
        refine G.skipG (by decide) rfl rfl rfl ?_
        refine G.skipG (by decide) rfl rfl rfl ?_
        refine G.skipG (by decide) rfl rfl rfl ?_
        refine G.skipG (by decide) rfl rfl rfl ?_
        refine G.skipG (by decide) rfl rfl rfl ?_
        refine G.skipG (by decide) rfl rfl rfl ?_
        refine G.skipG (by decide) rfl rfl rfl ?_
        refine G.yld (by decide) (Yld.pickF rfl rfl) ?_
        refine G.fold (A := isP bk p) (entP (.pick (A := sl false _ bv _ _) (by repeat (first | with_reducible exact Pick.here | with_reducible apply Pick.there))) (.pick (A := cel _ bk _ _) (by repeat (first | with_reducible exact Pick.here | with_reducible apply Pick.there))) rfl) ?_
        refine G.done ?_
        refine G.nil ?_
        exact G.cutEnd (.as (t := 35) rfl (congrArg Value.bool (by simp [Piece.over, Piece.isOpen, *])) (.cons (t := 0) rfl (.cons (t := 1) rfl (.cons (t := 6) rfl (.cons (t := 11) rfl (.cons (t := 12) rfl (.cons (t := 13) rfl .nil))))))) (.cons (by repeat (first | with_reducible exact Pick.here | with_reducible apply Pick.there)) (.cons (by repeat (first | with_reducible exact Pick.here | with_reducible apply Pick.there)) (.cons (by repeat (first | with_reducible exact Pick.here | with_reducible apply Pick.there)) (.cons (by repeat (first | with_reducible exact Pick.here | with_reducible apply Pick.there)) (.cons (by repeat (first | with_reducible exact Pick.here | with_reducible apply Pick.there)) (.cons (by repeat (first | with_reducible exact Pick.here | with_reducible apply Pick.there)) .nil))))))
    refine G.condP rfl (fun hsp => ?_) (fun hsp => ?_)
    · refine G.pick (A := isP bk p) (by repeat (first | with_reducible exact Pick.here | with_reducible apply Pick.there)) (G.ex fun bv => G.star ?_)
      refine G.region ?_
      refine G.yld (by decide) (Yld.move rfl) ?_
      refine G.yld (by decide) (Yld.move rfl) ?_
      refine G.yld (by decide) (Yld.nilCheck rfl) ?_
      refine G.yld (by decide) (Yld.fieldAddr Try_fo93_1 rfl) ?_
      refine G.yld (by decide) (Yld.load rfl Try.isAgg3 (by repeat (first | with_reducible exact Pick.here | with_reducible apply Pick.there)) rfl) ?_
      refine G.fold (A := isPs bs g.ps) (entPs hbk (p' := p) (entP (.pick (A := sl false _ bv _ _) (by repeat (first | with_reducible exact Pick.here | with_reducible apply Pick.there))) (.pick (A := cel _ bk _ _) (by repeat (first | with_reducible exact Pick.here | with_reducible apply Pick.there))) rfl) (.pick (A := isPs (bs.take k) _) (by repeat (first | with_reducible exact Pick.here | with_reducible apply Pick.there))) (.pick (A := isPs (bs.drop (k + 1)) _) (by repeat (first | with_reducible exact Pick.here | with_reducible apply Pick.there))) (set_same hp) (by show k < g.ps.length; omega)) ?_
      refine G.fold (A := sl true 1 (.slice (some ⟨bb, off, none⟩) f.ps.length cap) f.ps.length (ptc bs)) (.imp (.pick (A := cel _ bb _ _) (by repeat (first | with_reducible exact Pick.here | with_reducible apply Pick.there))) fun _ h => .inr ⟨bb, T, off, _, pre, post, rfl, hpre, hcs, hpost, hle2, h⟩) ?_
      refine G.opc (by decide) (OpC.call Try.call41 rfl (give_spec b g _ _ bs r f.ps.length hgl (by omega)) (.cons (by repeat (first | with_reducible exact Pick.here | with_reducible apply Pick.there)) (.cons (by repeat (first | with_reducible exact Pick.here | with_reducible apply Pick.there)) (.cons (by repeat (first | with_reducible exact Pick.here | with_reducible apply Pick.there)) (.cons (by repeat (first | with_reducible exact Pick.here | with_reducible apply Pick.there)) .nil))))) fun _ => ?_
      refine G.star4 ?_
      refine G.done ?_
      refine G.nil ?_
      refine G.x_block (G.x_then ?_)
      refine G.region ?_
      refine G.yld (by decide) (Yld.add_i (b := (1 : Int)) rfl rfl (by omega)) ?_
      refine G.yld (by decide) (Yld.move rfl) ?_
      refine G.done ?_
      refine G.nil ?_
      refine G.x_then ?_
      exact G.againE (k + 1, g.give p.m) (by show f.ps.length - (k + 1) < f.ps.length - k; omega) (.cons (t := 0) rfl (.cons (t := 1) rfl (.cons (t := 11) rfl (.cons (t := 12) rfl (.cons (t := 13) rfl .nil))))) (.cons (.lift ⟨by omega, hw.give _ (hw.rng.1 p (List.mem_of_getElem? hp)), (expK_give (by omega) hp hsp).symm.trans hres⟩) (.cons (.pick (by repeat (first | with_reducible exact Pick.here | with_reducible apply Pick.there))) (.cons (.pick (by repeat (first | with_reducible exact Pick.here | with_reducible apply Pick.there))) (.cons (.pick (by repeat (first | with_reducible exact Pick.here | with_reducible apply Pick.there))) (.cons (.pick (by repeat (first | with_reducible exact Pick.here | with_reducible apply Pick.there))) .nil)))))
    · refine G.skip ?_
      refine G.nil ?_
      refine G.x_block (G.x_then ?_)
      refine G.region ?_
      refine G.yld (by decide) (Yld.add_i (b := (1 : Int)) rfl rfl (by omega)) ?_
      refine G.yld (by decide) (Yld.move rfl) ?_
      refine G.done ?_
      refine G.nil ?_
      refine G.x_then ?_
      exact G.againE (k + 1, g) (by show f.ps.length - (k + 1) < f.ps.length - k; omega) (.cons (t := 0) rfl (.cons (t := 1) rfl (.cons (t := 11) rfl (.cons (t := 12) rfl (.cons (t := 13) rfl .nil))))) (.cons (.lift ⟨by omega, hw, (expK_skip (by omega) hp hsp).symm.trans hres⟩) (.cons (.pick (by repeat (first | with_reducible exact Pick.here | with_reducible apply Pick.there))) (.cons (.imp (.pick (A := cel _ bb _ _) (by repeat (first | with_reducible exact Pick.here | with_reducible apply Pick.there))) fun _ h => .inr ⟨bb, T, off, _, pre, post, rfl, hpre, hcs, hpost, hle2, h⟩) (.cons (entPs hbk (p' := p) (.pick (A := isP bk p) (by repeat (first | with_reducible exact Pick.here | with_reducible apply Pick.there))) (.pick (A := isPs (bs.take k) _) (by repeat (first | with_reducible exact Pick.here | with_reducible apply Pick.there))) (.pick (A := isPs (bs.drop (k + 1)) _) (by repeat (first | with_reducible exact Pick.here | with_reducible apply Pick.there))) (set_same hp) (by show k < g.ps.length; omega)) (.cons (.pick (by repeat (first | with_reducible exact Pick.here | with_reducible apply Pick.there))) .nil)))))
  · have hR := hres.symm.trans (expK_end (by omega))
    have hsmg : g.gone.length ≤ 1000000000 := hR ▸ hgone
    refine G.exit ?_
    refine G.x_exit_then (G.x_exit_then ?_)
    refine G.x_exit_block (G.x_then ?_)
    refine G.unframe (by repeat (first | exact App.nil | apply App.cons)) ?_
    refine G.seq ?_
    refine G.region ?_
    refine G.yld (by decide) (Yld.move rfl) ?_
    refine G.yld (by decide) (Yld.nilCheck rfl) ?_
    refine G.yld (by decide) (Yld.fieldAddr Try_fo87_2 rfl) ?_
    refine G.yld (by decide) (Yld.load rfl Try.isAgg84 (by repeat (first | with_reducible exact Pick.here | with_reducible apply Pick.there)) rfl) ?_
    refine G.opc (by decide) (OpC.call Try.call43 rfl (keys_spec _) .nil) fun v => ?_
    refine G.ex fun bm => ?_
    refine G.star ?_
    refine G.lift ?_
    rintro rfl
    refine G.opc (by decide) (OpC.call Try.call42 rfl (hsk r bm g.gone hsmg hw.gone hw.rng.2) (.cons (A := cel _ bm _ _) (by repeat (first | with_reducible exact Pick.here | with_reducible apply Pick.there)) (.cons (A := mapA _ _ _) (by repeat (first | with_reducible exact Pick.here | with_reducible apply Pick.there)) .nil))) fun v => ?_
    refine G.star ?_
    refine G.yld (by decide) (Yld.assign rfl) ?_
    refine G.done ?_
    refine G.seq ?_
    refine G.region ?_
    refine G.yld (by decide) (Yld.move rfl) ?_
    refine G.yld (by decide) (Yld.nilCheck rfl) ?_
    refine G.yld (by decide) (Yld.fieldAddr Try_fo87_2 rfl) ?_
    refine G.yld (by decide) (Yld.load rfl Try.isAgg84 (by repeat (first | with_reducible exact Pick.here | with_reducible apply Pick.there)) rfl) ?_
    refine G.op0  (OpC.clear (enc := encI) Try.runUnderlying84 rfl (by repeat (first | with_reducible exact Pick.here | with_reducible apply Pick.there))) fun _ => ?_
    refine G.done ?_
    refine G.seq ?_
    refine G.region ?_
    refine G.yld (by decide) (Yld.move rfl) ?_
    refine G.yld (by decide) (Yld.assign rfl) ?_
    refine G.done ?_
    refine G.ret ?_
    refine G.ret1 (.inr rfl) Try.results15 (.tmp rfl) ?_
    exact ⟨_, (by rw [show f.expire now = (sortI g.gone, { g with gone := [] }) by simp [Fm.expire, hR]]; exact (.star (.imp (.pick (A := sl true 1 _ g.gone.length (vIs (sortI g.gone))) (by repeat (first | with_reducible exact Pick.here | with_reducible apply Pick.there))) fun _ h => by simpa [sortI] using h) (entF (f := { g with gone := [] }) (.pick (A := cel _ b _ _) (by repeat (first | with_reducible exact Pick.here | with_reducible apply Pick.there))) (.pick (by repeat (first | with_reducible exact Pick.here | with_reducible apply Pick.there))) hgl.symm (.pick (by repeat (first | with_reducible exact Pick.here | with_reducible apply Pick.there))) (.imp (.pick (A := mapA encI r []) (by repeat (first | with_reducible exact Pick.here | with_reducible apply Pick.there))) fun _ h => h))))⟩
end Go.Fl
