/- Contracts, printed by a program of mine and proved by Lean. -/
import Derived.Test.YtogemllbdkbjkaaFlAckF
import Derived.Test.YtogemllbdkbjkaaFlA6
import Derived.Test.YtogemllbdkbjkaaSlSub
set_option linter.unusedVariables false
set_option linter.unusedSimpArgs false
namespace Go.Fl
open Go Go.Sl Go.Proofs
set_option maxRecDepth 10000
set_option linter.unusedVariables false
theorem arrive_spec (b b3 b7 b5 b9 : Nat) (s : Ak) (on lost bad : Bool) (now mark : UInt32) (x gm : Value) (bs : List Nat) (n i : Nat) (hs : s.ok) (hn : s.ps.length = n) (hi : i < n) (hsmall : n < 1000000000) : Sl.Spec Try.prog 49 [vI (i : Int), ptr b3, ptr b7, ptr b5, ptr b9].toArray [cel true b3 40 [ptr b], cel true b7 59 [vI (s).bytes, .bool on, .bool lost, vI (s).rtt, .bool bad], cel true b5 22 [vU32 now], cel true b9 3 [vI (s).top], cel true b 87 [vU32 mark, x, gm], sl true 1 x n (ptc bs), isPs bs (s).ps] (fun v => star (cel true b3 40 [ptr b]) (star (cel true b7 59 [vI (s.arrive now i).bytes, .bool on, .bool lost, vI (s.arrive now i).rtt, .bool bad]) (star (cel true b5 22 [vU32 now]) (star (cel true b9 3 [vI (s.arrive now i).top]) (star (cel true b 87 [vU32 mark, x, gm]) (star (sl true 1 x n (ptc bs)) (isPs bs (s.arrive now i).ps))))))) := by
  refine Sl.Spec.of_body (vs := [vI (i : Int), ptr b3, ptr b7, ptr b5, ptr b9]) Try.func49 Try.ntmps49 (Nat.le_of_ble_eq_true rfl) rfl fun w0 F => ?_
  have hlow := hs.low
  have hhi := ok_le hs
  refine G.fact (A := isPs bs s.ps) (by repeat (first | with_reducible exact Pick.here | with_reducible apply Pick.there)) (fun _ h => isPs_len h) fun hlb => ?_
  obtain ⟨bk, hbk⟩ : ∃ b, bs[i]? = some b := ⟨bs[i]'(by omega), by simp⟩
  obtain ⟨p, hp⟩ : ∃ p, s.ps[i]? = some p := ⟨s.ps[i]'(by omega), by simp⟩
  have hbd := hs.body p (List.mem_of_getElem? hp)
  refine G.pick (A := sl true 1 x _ _) (by repeat (first | with_reducible exact Pick.here | with_reducible apply Pick.there)) (G.slice (fun a0 hv hn0 hc => by omega) (fun bb T off cap pre post hv hpre hcs hpost hle2 => ?_))
  subst hv
  refine G.seq ?_
  refine G.region ?_
  refine G.yld (by decide) (Yld.load rfl Try.isAgg40 (by repeat (first | with_reducible exact Pick.here | with_reducible apply Pick.there)) rfl) ?_
  refine G.yld (by decide) (Yld.nilCheck rfl) ?_
  refine G.yld (by decide) (Yld.fieldAddr Try_fo87_1 rfl) ?_
  refine G.yld (by decide) (Yld.load rfl Try.isAgg85 (by repeat (first | with_reducible exact Pick.here | with_reducible apply Pick.there)) rfl) ?_
  refine G.yld (by decide) (Yld.move rfl) ?_
  refine G.yld (by decide) (Yld.indexAddr Try.runUnderlying85 Try.sizeOf89 rfl rfl (by omega) (by omega)) ?_
  refine G.yld (by decide) (Yld.load rfl Try.isAgg89 (by repeat (first | with_reducible exact Pick.here | with_reducible apply Pick.there)) (ptc_at hpre hbk)) ?_
  refine G.yld (by decide) (Yld.assign rfl) ?_
  refine G.done ?_
  refine G.seq ?_
  refine G.seq ?_
  refine G.conv (A := isPs bs _) (by repeat (first | with_reducible exact Pick.here | with_reducible apply Pick.there)) (isPs_split hbk hp) ?_
  refine G.star3 ?_
  refine G.ex fun bv => G.star ?_
  refine G.region ?_
  refine G.yld (by decide) (Yld.move rfl) ?_
  refine G.yld (by decide) (Yld.nilCheck rfl) ?_
  refine G.yld (by decide) (Yld.fieldAddr Try_fo93_6 rfl) ?_
  refine G.yld (by decide) (Yld.load rfl Try.isAgg91 (by repeat (first | with_reducible exact Pick.here | with_reducible apply Pick.there)) rfl) ?_
  refine G.yld (by decide) (Yld.eql_i (b := (2 : Int)) rfl rfl) ?_
  refine G.done ?_
  refine G.condP rfl (fun h2 => ?_) (fun h2 => ?_)
  · refine G.ret ?_
    rw [arrive_same hp h2]
    refine G.ret0 (.inr rfl) Try.results49 ?_
    exact ⟨_, (.star (.pick (by repeat (first | with_reducible exact Pick.here | with_reducible apply Pick.there))) (.star (.pick (by repeat (first | with_reducible exact Pick.here | with_reducible apply Pick.there))) (.star (.pick (by repeat (first | with_reducible exact Pick.here | with_reducible apply Pick.there))) (.star (.pick (by repeat (first | with_reducible exact Pick.here | with_reducible apply Pick.there))) (.star (.pick (by repeat (first | with_reducible exact Pick.here | with_reducible apply Pick.there))) (.star (.imp (.pick (A := cel _ bb _ _) (by repeat (first | with_reducible exact Pick.here | with_reducible apply Pick.there))) fun _ h => .inr ⟨bb, T, off, _, pre, post, rfl, hpre, hcs, hpost, hle2, h⟩) (entPs hbk (p' := p) (entP (.pick (A := sl false _ bv _ _) (by repeat (first | with_reducible exact Pick.here | with_reducible apply Pick.there))) (.pick (A := cel _ bk _ _) (by repeat (first | with_reducible exact Pick.here | with_reducible apply Pick.there))) (by rfl)) (.pick (A := isPs (bs.take i) _) (by repeat (first | with_reducible exact Pick.here | with_reducible apply Pick.there))) (.pick (A := isPs (bs.drop (i + 1)) _) (by repeat (first | with_reducible exact Pick.here | with_reducible apply Pick.there))) (set_same hp) (by omega))))))))⟩
  · refine G.skip ?_
    refine G.seq ?_
    refine G.seq ?_
    refine G.fold (A := isP bk p) (entP (.pick (A := sl false _ bv _ _) (by repeat (first | with_reducible exact Pick.here | with_reducible apply Pick.there))) (.pick (A := cel _ bk _ _) (by repeat (first | with_reducible exact Pick.here | with_reducible apply Pick.there))) rfl) ?_
    refine G.region ?_
    refine G.yld (by decide) (Yld.move rfl) ?_
    refine G.opc (by decide) (OpC.call Try.call40 rfl (open_spec _ _) (.cons (A := isP bk p) (by repeat (first | with_reducible exact Pick.here | with_reducible apply Pick.there)) .nil)) fun v => ?_
    refine G.star ?_
    refine G.lift ?_
    rintro rfl
    refine G.ex fun bv => G.star ?_
    refine G.done ?_
    refine G.cond rfl (fun hop => ?_) (fun hop => ?_)
    · refine G.seq ?_
      refine G.pick (A := sl false _ bv _ _) (by repeat (first | with_reducible exact Pick.here | with_reducible apply Pick.there)) (G.slv fun ab capb hvb hleb hlb2 => ?_)
      obtain rfl := hvb
      refine G.draw Try_mixed (.still 0 (.still 1 (.still 2 (.still 3 (.still 4 (.still 5 (.still 6 (.still 7 (.still 8 (.still 9 (.loud 10 false (.done)))))))))))) (by kernel_rfl) (.cons (A := cel _ bk _ _) (by repeat (first | with_reducible exact Pick.here | with_reducible apply Pick.there)) (.cons (A := cel _ b7 _ _) (by repeat (first | with_reducible exact Pick.here | with_reducible apply Pick.there)) .nil)) ?_
      refine GO.yld (i := 0) rfl (by decide) (Yld.fieldAddr Try_fo59_0 rfl) ?_
      refine GO.yld (i := 1) rfl (by decide) (Yld.load rfl Try.isAgg3 (by repeat (first | with_reducible exact Pick.here | with_reducible apply Pick.there)) rfl) ?_
      refine GO.yld (i := 2) rfl (by decide) (Yld.move rfl) ?_
      refine GO.yld (i := 3) rfl (by decide) (Yld.nilCheck rfl) ?_
      refine GO.yld (i := 4) rfl (by decide) (Yld.fieldAddr Try_fo93_0 rfl) ?_
      refine GO.yld (i := 5) rfl (by decide) (Yld.fieldAddr Try_fo36_18 rfl) ?_
      refine GO.yld (i := 6) rfl (by decide) (Yld.load rfl Try.isAgg23 (by repeat (first | with_reducible exact Pick.here | with_reducible apply Pick.there)) rfl) ?_
      refine GO.yld (i := 7) rfl (by decide) (Yld.len_slice Try.runUnderlying23 rfl) ?_
      refine GO.yld (i := 8) rfl (by decide) (Yld.add_i rfl rfl (by omega)) ?_
      refine GO.yld (i := 9) rfl (by decide) (Yld.fieldAddr Try_fo59_0 rfl) ?_
      refine GO.x ?_
      refine GX.op0 (i := 10) rfl  (OpC.storeS .zero Try.sizeOf3 rfl rfl rfl (by repeat (first | with_reducible exact Pick.here | with_reducible apply Pick.there))) fun _ => ?_
      refine GX.done ?_
      refine G.seq ?_
      refine G.region ?_
      refine G.yld (by decide) (Yld.move rfl) ?_
      refine G.yld (by decide) (Yld.nilCheck rfl) ?_
      refine G.yld (by decide) (Yld.fieldAddr Try_fo93_3 rfl) ?_
      refine G.yld (by decide) (Yld.load rfl Try.isAgg90 (by repeat (first | with_reducible exact Pick.here | with_reducible apply Pick.there)) rfl) ?_
      refine G.yld (by decide) (Yld.eql_u64 (b := (1 : UInt64)) rfl rfl) ?_
      refine G.done ?_
      refine G.condP rfl (fun hs1 => ?_) (fun hs1 => ?_)
      · refine G.draw Try_mixed (.still 0 (.still 1 (.still 2 (.still 3 (.still 4 (.loud 5 true (.still 6 (.still 7 (.loud 8 false (.done)))))))))) (by kernel_rfl) (.cons (A := cel _ bk _ _) (by repeat (first | with_reducible exact Pick.here | with_reducible apply Pick.there)) (.cons (A := cel _ b5 _ _) (by repeat (first | with_reducible exact Pick.here | with_reducible apply Pick.there)) .nil)) ?_
        refine GO.yld (i := 0) rfl (by decide) (Yld.move rfl) ?_
        refine GO.yld (i := 1) rfl (by decide) (Yld.nilCheck rfl) ?_
        refine GO.yld (i := 2) rfl (by decide) (Yld.fieldAddr Try_fo93_4 rfl) ?_
        refine GO.yld (i := 3) rfl (by decide) (Yld.load rfl Try.isAgg22 (by repeat (first | with_reducible exact Pick.here | with_reducible apply Pick.there)) rfl) ?_
        refine GO.yld (i := 4) rfl (by decide) (Yld.load rfl Try.isAgg22 (by repeat (first | with_reducible exact Pick.here | with_reducible apply Pick.there)) rfl) ?_
        refine GO.opc (i := 5) rfl (by decide) (OpC.call Try.call26 rfl (dist_spec _ _) .nil) (fun _ => (.cons (A := cel _ bk _ _) (by repeat (first | with_reducible exact Pick.here | with_reducible apply Pick.there)) (.cons (A := cel _ b5 _ _) (by repeat (first | with_reducible exact Pick.here | with_reducible apply Pick.there)) .nil))) fun v => ?_
        refine GO.lift ?_
        rintro rfl
        refine GO.yld (i := 6) rfl (by decide) (Yld.conv_u32_i Try.runUnderlying22 Try.runUnderlying3 rfl) ?_
        refine GO.yld (i := 7) rfl (by decide) (Yld.fieldAddr Try_fo59_3 rfl) ?_
        refine GO.x ?_
        refine GX.op0 (i := 8) rfl  (OpC.storeS (.succ (.succ (.succ .zero))) Try.sizeOf3 rfl rfl rfl (by repeat (first | with_reducible exact Pick.here | with_reducible apply Pick.there))) fun _ => ?_
        refine GX.done ?_
        refine G.seq ?_
        refine G.region ?_
        refine G.yld (by decide) (Yld.move rfl) ?_
        refine G.yld (by decide) (Yld.nilCheck rfl) ?_
        refine G.yld (by decide) (Yld.fieldAddr Try_fo93_6 rfl) ?_
        refine G.op0  (OpC.store Try.sizeOf91 rfl rfl rfl (by repeat (first | with_reducible exact Pick.here | with_reducible apply Pick.there)) rfl (Nat.le_of_ble_eq_true rfl)) fun _ => ?_
        refine G.done ?_
        refine G.region ?_
        refine G.yld (by decide) (Yld.move rfl) ?_
        refine G.op0  (OpC.storeS .zero Try.sizeOf3 rfl rfl rfl (by repeat (first | with_reducible exact Pick.here | with_reducible apply Pick.there))) fun _ => ?_
        refine G.done ?_
        refine G.nil ?_
        rw [arrive_eq hp h2]
        refine G.ret0 (.inl rfl) Try.results49 ?_
        exact ⟨_, (.star (.pick (by repeat (first | with_reducible exact Pick.here | with_reducible apply Pick.there))) (.star (.imp (.pick (A := cel _ b7 _ _) (by repeat (first | with_reducible exact Pick.here | with_reducible apply Pick.there))) fun _ h => by simpa [Ak.arr, hop, hs1] using h) (.star (.pick (by repeat (first | with_reducible exact Pick.here | with_reducible apply Pick.there))) (.star (.pick (by repeat (first | with_reducible exact Pick.here | with_reducible apply Pick.there))) (.star (.pick (by repeat (first | with_reducible exact Pick.here | with_reducible apply Pick.there))) (.star (.imp (.pick (A := cel _ bb _ _) (by repeat (first | with_reducible exact Pick.here | with_reducible apply Pick.there))) fun _ h => .inr ⟨bb, T, off, _, pre, post, rfl, hpre, hcs, hpost, hle2, h⟩) (entPs hbk (p' := p.came) (entP (.pick (A := sl false _ _ p.body.length _) (by repeat (first | with_reducible exact Pick.here | with_reducible apply Pick.there))) (.pick (A := cel _ bk _ _) (by repeat (first | with_reducible exact Pick.here | with_reducible apply Pick.there))) (by rfl)) (.pick (A := isPs (bs.take i) _) (by repeat (first | with_reducible exact Pick.here | with_reducible apply Pick.there))) (.pick (A := isPs (bs.drop (i + 1)) _) (by repeat (first | with_reducible exact Pick.here | with_reducible apply Pick.there))) rfl (by omega))))))))⟩
      · refine G.skip ?_
        refine G.seq ?_
        refine G.region ?_
        refine G.yld (by decide) (Yld.move rfl) ?_
        refine G.yld (by decide) (Yld.nilCheck rfl) ?_
        refine G.yld (by decide) (Yld.fieldAddr Try_fo93_6 rfl) ?_
        refine G.op0  (OpC.store Try.sizeOf91 rfl rfl rfl (by repeat (first | with_reducible exact Pick.here | with_reducible apply Pick.there)) rfl (Nat.le_of_ble_eq_true rfl)) fun _ => ?_
        refine G.done ?_
        refine G.region ?_
        refine G.yld (by decide) (Yld.move rfl) ?_
        refine G.op0  (OpC.storeS .zero Try.sizeOf3 rfl rfl rfl (by repeat (first | with_reducible exact Pick.here | with_reducible apply Pick.there))) fun _ => ?_
        refine G.done ?_
        refine G.nil ?_
        rw [arrive_eq hp h2]
        refine G.ret0 (.inl rfl) Try.results49 ?_
        exact ⟨_, (.star (.pick (by repeat (first | with_reducible exact Pick.here | with_reducible apply Pick.there))) (.star (.imp (.pick (A := cel _ b7 _ _) (by repeat (first | with_reducible exact Pick.here | with_reducible apply Pick.there))) fun _ h => by simpa [Ak.arr, hop, hs1] using h) (.star (.pick (by repeat (first | with_reducible exact Pick.here | with_reducible apply Pick.there))) (.star (.pick (by repeat (first | with_reducible exact Pick.here | with_reducible apply Pick.there))) (.star (.pick (by repeat (first | with_reducible exact Pick.here | with_reducible apply Pick.there))) (.star (.imp (.pick (A := cel _ bb _ _) (by repeat (first | with_reducible exact Pick.here | with_reducible apply Pick.there))) fun _ h => .inr ⟨bb, T, off, _, pre, post, rfl, hpre, hcs, hpost, hle2, h⟩) (entPs hbk (p' := p.came) (entP (.pick (A := sl false _ _ p.body.length _) (by repeat (first | with_reducible exact Pick.here | with_reducible apply Pick.there))) (.pick (A := cel _ bk _ _) (by repeat (first | with_reducible exact Pick.here | with_reducible apply Pick.there))) (by rfl)) (.pick (A := isPs (bs.take i) _) (by repeat (first | with_reducible exact Pick.here | with_reducible apply Pick.there))) (.pick (A := isPs (bs.drop (i + 1)) _) (by repeat (first | with_reducible exact Pick.here | with_reducible apply Pick.there))) rfl (by omega))))))))⟩
    · refine G.skip ?_
      refine G.seq ?_
      refine G.region ?_
      refine G.yld (by decide) (Yld.move rfl) ?_
      refine G.yld (by decide) (Yld.nilCheck rfl) ?_
      refine G.yld (by decide) (Yld.fieldAddr Try_fo93_6 rfl) ?_
      refine G.op0  (OpC.store Try.sizeOf91 rfl rfl rfl (by repeat (first | with_reducible exact Pick.here | with_reducible apply Pick.there)) rfl (Nat.le_of_ble_eq_true rfl)) fun _ => ?_
      refine G.done ?_
      refine G.region ?_
      refine G.yld (by decide) (Yld.move rfl) ?_
      refine G.op0  (OpC.storeS .zero Try.sizeOf3 rfl rfl rfl (by repeat (first | with_reducible exact Pick.here | with_reducible apply Pick.there))) fun _ => ?_
      refine G.done ?_
      refine G.nil ?_
      rw [arrive_eq hp h2]
      refine G.ret0 (.inl rfl) Try.results49 ?_
      exact ⟨_, (.star (.pick (by repeat (first | with_reducible exact Pick.here | with_reducible apply Pick.there))) (.star (.imp (.pick (A := cel _ b7 _ _) (by repeat (first | with_reducible exact Pick.here | with_reducible apply Pick.there))) fun _ h => by simpa [Ak.arr, hop] using h) (.star (.pick (by repeat (first | with_reducible exact Pick.here | with_reducible apply Pick.there))) (.star (.pick (by repeat (first | with_reducible exact Pick.here | with_reducible apply Pick.there))) (.star (.pick (by repeat (first | with_reducible exact Pick.here | with_reducible apply Pick.there))) (.star (.imp (.pick (A := cel _ bb _ _) (by repeat (first | with_reducible exact Pick.here | with_reducible apply Pick.there))) fun _ h => .inr ⟨bb, T, off, _, pre, post, rfl, hpre, hcs, hpost, hle2, h⟩) (entPs hbk (p' := p.came) (entP (.pick (A := sl false _ _ p.body.length _) (by repeat (first | with_reducible exact Pick.here | with_reducible apply Pick.there))) (.pick (A := cel _ bk _ _) (by repeat (first | with_reducible exact Pick.here | with_reducible apply Pick.there))) (by rfl)) (.pick (A := isPs (bs.take i) _) (by repeat (first | with_reducible exact Pick.here | with_reducible apply Pick.there))) (.pick (A := isPs (bs.drop (i + 1)) _) (by repeat (first | with_reducible exact Pick.here | with_reducible apply Pick.there))) rfl (by omega))))))))⟩
theorem bad_spec {m : Bool} (b : Nat) (f : Fm) (c : Ck) (gv : Value) (gs : List (UInt16 × UInt16)) (hf : f.ok) (hgs : gs.length < 1000000000) : Sl.Spec Try.prog 48 [ptr b, .agg (ckv c gv nilS nilS nilS nilS).toArray].toArray [isF b f, sl m 2 gv gs.length (gpc gs)] (fun v => star (lift (v = .bool (f.bad c.kind c.tsn gs))) (star (isF b f) (sl m 2 gv gs.length (gpc gs)))) := by
  refine Sl.Spec.of_body (vs := [ptr b, .agg (ckv c gv nilS nilS nilS nilS).toArray]) Try.func48 Try.ntmps48 (Nat.le_of_ble_eq_true rfl) rfl fun w0 F => ?_
  have hsmall := hf.len
  refine G.pick (.there .here) (G.slv fun ag capg hvg hleg hlg => ?_)
  subst hvg
  refine G.seq ?_
  refine G.region ?_
  refine G.opc (by decide) (OpC.box (cs := (ckv c (.slice ag gs.length capg) nilS nilS nilS nilS)) rfl rfl) fun b3 => ?_
  refine G.yld (by decide) (Yld.assign rfl) ?_
  refine G.done ?_
  refine G.seq ?_
  refine G.region ?_
  refine G.yld (by decide) (Yld.move rfl) ?_
  refine G.opc (by decide) (OpC.call Try.call37 rfl (flNext_spec _ _) (.cons (by repeat (first | with_reducible exact Pick.here | with_reducible apply Pick.there)) .nil)) fun v => ?_
  refine G.star ?_
  refine G.lift ?_
  rintro rfl
  refine G.yld (by decide) (Yld.sub_u32 (b := (1 : UInt32)) rfl rfl) ?_
  refine G.yld (by decide) (Yld.assign rfl) ?_
  refine G.done ?_
  refine G.seq ?_
  refine G.seq ?_
  refine G.pick (A := isF b f) (by repeat (first | with_reducible exact Pick.here | with_reducible apply Pick.there)) ?_
  refine G.openF fun v bs r hlen => ?_
  refine G.cutB (t := 25) (v := .bool (decide (c.kind ≠ 3 ∨ ¬ inR c.tsn f.mark (f.next - 1)))) (.cons (t := 3) rfl (.cons (t := 4) rfl (.cons (t := 5) rfl .nil))) ?_ ?_
  · refine G.draw Try_mixed (.still 0 (.still 1 (.still 2 (.still 3 (.still 4 (.still 5 (.still 6 (.still 7 (.still 8 (.still 9 (.still 10 (.loud 11 true (.still 12 (.still 13 (.done))))))))))))))) (by kernel_rfl) (.cons (A := cel _ b3 _ _) (by repeat (first | with_reducible exact Pick.here | with_reducible apply Pick.there)) (.cons (A := cel _ b _ _) (by repeat (first | with_reducible exact Pick.here | with_reducible apply Pick.there)) .nil)) ?_
    refine GO.yld (i := 0) rfl (by decide) (Yld.fieldAddr Try_fo36_0 rfl) ?_
    refine GO.yld (i := 1) rfl (by decide) (Yld.load rfl Try.isAgg29 (by repeat (first | with_reducible exact Pick.here | with_reducible apply Pick.there)) rfl) ?_
    refine GO.yld (i := 2) rfl (by decide) (Yld.neq_u8 (b := (3 : UInt8)) rfl rfl) ?_
    refine GO.yld (i := 3) rfl (by decide) (Yld.move rfl) ?_
    refine GO.splitB (t := 15) rfl (fun hkd => ?_) (fun hkd => ?_)
    · refine GO.skipG (i := 4) rfl (by decide) rfl rfl rfl ?_
      refine GO.skipG (i := 5) rfl (by decide) rfl rfl rfl ?_
      refine GO.skipG (i := 6) rfl (by decide) rfl rfl rfl ?_
      refine GO.skipG (i := 7) rfl (by decide) rfl rfl rfl ?_
      refine GO.skipG (i := 8) rfl (by decide) rfl rfl rfl ?_
      refine GO.skipG (i := 9) rfl (by decide) rfl rfl rfl ?_
      refine GO.skipG (i := 10) rfl (by decide) rfl rfl rfl ?_
      refine GO.lskipG (i := 11) rfl (by decide) rfl rfl rfl ?_
      refine GO.skipG (i := 12) rfl (by decide) rfl rfl rfl ?_
      refine GO.yld (i := 13) rfl (by decide) (Yld.pickT rfl rfl) ?_
      refine GO.done ?_
      refine G.nil ?_
      exact G.cutEnd (.as (t := 25) rfl (congrArg Value.bool (by simp [inR, *])) (.cons (t := 3) rfl (.cons (t := 4) rfl (.cons (t := 5) rfl .nil)))) (.cons (by repeat (first | with_reducible exact Pick.here | with_reducible apply Pick.there)) (.cons (by repeat (first | with_reducible exact Pick.here | with_reducible apply Pick.there)) (.cons (by repeat (first | with_reducible exact Pick.here | with_reducible apply Pick.there)) (.cons (by repeat (first | with_reducible exact Pick.here | with_reducible apply Pick.there)) (.cons (by repeat (first | with_reducible exact Pick.here | with_reducible apply Pick.there)) (.cons (by repeat (first | with_reducible exact Pick.here | with_reducible apply Pick.there)) .nil))))))
    · refine GO.yldG (i := 4) rfl (by decide) rfl rfl (Yld.fieldAddr Try_fo36_5 rfl) ?_
      refine GO.yldG (i := 5) rfl (by decide) rfl rfl (Yld.load rfl Try.isAgg22 (by repeat (first | with_reducible exact Pick.here | with_reducible apply Pick.there)) rfl) ?_
      refine GO.yldG (i := 6) rfl (by decide) rfl rfl (Yld.move rfl) ?_
      refine GO.yldG (i := 7) rfl (by decide) rfl rfl (Yld.nilCheck rfl) ?_
      refine GO.yldG (i := 8) rfl (by decide) rfl rfl (Yld.fieldAddr Try_fo87_0 rfl) ?_
      refine GO.yldG (i := 9) rfl (by decide) rfl rfl (Yld.load rfl Try.isAgg22 (by repeat (first | with_reducible exact Pick.here | with_reducible apply Pick.there)) rfl) ?_
      refine GO.yldG (i := 10) rfl (by decide) rfl rfl (Yld.move rfl) ?_
      refine GO.opG (i := 11) rfl (by decide) rfl rfl (OpC.call Try.call80 rfl (in_spec _ _ _) .nil) (fun _ => (.cons (A := cel _ b3 _ _) (by repeat (first | with_reducible exact Pick.here | with_reducible apply Pick.there)) (.cons (A := cel _ b _ _) (by repeat (first | with_reducible exact Pick.here | with_reducible apply Pick.there)) .nil))) fun v => ?_
      refine GO.lift ?_
      rintro rfl
      refine GO.yldG (i := 12) rfl (by decide) rfl rfl (Yld.notP rfl) ?_
      refine GO.yld (i := 13) rfl (by decide) (Yld.pickF rfl rfl) ?_
      refine GO.done ?_
      refine G.nil ?_
      exact G.cutEnd (.as (t := 25) rfl (congrArg Value.bool (by simp [inR, *])) (.cons (t := 3) rfl (.cons (t := 4) rfl (.cons (t := 5) rfl .nil)))) (.cons (by repeat (first | with_reducible exact Pick.here | with_reducible apply Pick.there)) (.cons (by repeat (first | with_reducible exact Pick.here | with_reducible apply Pick.there)) (.cons (by repeat (first | with_reducible exact Pick.here | with_reducible apply Pick.there)) (.cons (by repeat (first | with_reducible exact Pick.here | with_reducible apply Pick.there)) (.cons (by repeat (first | with_reducible exact Pick.here | with_reducible apply Pick.there)) (.cons (by repeat (first | with_reducible exact Pick.here | with_reducible apply Pick.there)) .nil))))))
  refine G.condP rfl (fun hbad => ?_) (fun hbad => ?_)
  · refine G.seq ?_
    refine G.region ?_
    refine G.yld (by decide) (Yld.assign rfl) ?_
    refine G.done ?_
    refine G.ret ?_
    refine G.ret1 (.inr rfl) Try.results48 (.tmp rfl) ?_
    exact ⟨_, (.star (.lift (by rw [show f.bad c.kind c.tsn gs = true by simp only [Fm.bad, if_pos hbad]])) (.star (entF (.pick (by repeat (first | with_reducible exact Pick.here | with_reducible apply Pick.there))) (.pick (by repeat (first | with_reducible exact Pick.here | with_reducible apply Pick.there))) rfl (.pick (by repeat (first | with_reducible exact Pick.here | with_reducible apply Pick.there))) (.pick (by repeat (first | with_reducible exact Pick.here | with_reducible apply Pick.there)))) (.pick (A := sl m 2 _ _ _) (by repeat (first | with_reducible exact Pick.here | with_reducible apply Pick.there)))))⟩
  · have hB0 : f.bad c.kind c.tsn gs = badGs c.tsn (f.next - 1) gs 0 := by simp only [Fm.bad, if_neg hbad]
    refine G.skip ?_
    refine G.seq ?_
    refine G.region ?_
    refine G.yld (by decide) (Yld.assign rfl) ?_
    refine G.done ?_
    refine G.seq ?_
    refine G.seq ?_
    refine G.region ?_
    refine G.yld (by decide) (Yld.fieldAddr Try_fo36_14 rfl) ?_
    refine G.yld (by decide) (Yld.load rfl Try.isAgg31 (by repeat (first | with_reducible exact Pick.here | with_reducible apply Pick.there)) rfl) ?_
    refine G.yld (by decide) (Yld.len_slice Try.runUnderlying31 rfl) ?_
    refine G.yld (by decide) (Yld.move rfl) ?_
    refine G.done ?_
    refine G.block ?_
    refine G.loopE (X := Nat × Int) (fun x => [(3, ptr b3), (5, vU32 (f.next - 1)), (6, vI x.2), (27, .slice ag gs.length capg), (28, vI gs.length), (29, vI x.1)]) (fun x => [lift (x.1 ≤ gs.length ∧ (-1 ≤ x.2 ∧ x.2 ≤ 100000) ∧ badGs c.tsn (f.next - 1) (gs.drop x.1) x.2 = badGs c.tsn (f.next - 1) gs 0), sl m 2 (.slice ag gs.length capg) gs.length (gpc gs), cel true b3 36 (ckv c (.slice ag gs.length capg) nilS nilS nilS nilS), cel true b 87 [vU32 f.mark, v, .map (some r)], sl true 1 v f.ps.length (ptc bs), isPs bs f.ps, mapA encI r (goneC f.gone)]) (fun x => gs.length - x.1) (0, 0) (.cons (t := 3) rfl (.cons (t := 5) rfl (.cons (t := 6) rfl (.cons (t := 27) rfl (.cons (t := 28) rfl (.cons (t := 29) rfl .nil)))))) (.cons (.lift ⟨Nat.zero_le _, by decide, rfl⟩) (Ents.of_picks (.cons (by repeat (first | with_reducible exact Pick.here | with_reducible apply Pick.there)) (.cons (by repeat (first | with_reducible exact Pick.here | with_reducible apply Pick.there)) (.cons (by repeat (first | with_reducible exact Pick.here | with_reducible apply Pick.there)) (.cons (by repeat (first | with_reducible exact Pick.here | with_reducible apply Pick.there)) (.cons (by repeat (first | with_reducible exact Pick.here | with_reducible apply Pick.there)) (.cons (by repeat (first | with_reducible exact Pick.here | with_reducible apply Pick.there)) .nil)))))))) fun x => ?_
    obtain ⟨k, a⟩ := x
    refine G.lift fun hI => ?_
    obtain ⟨hk, ha, hres⟩ := hI
    dsimp only at hk ha hres ⊢
    refine G.seq ?_
    refine G.region ?_
    refine G.yld (by decide) (Yld.lss_i rfl rfl) ?_
    refine G.done ?_
    refine G.seq ?_
    refine G.condP rfl (fun hlt => ?_) (fun hlt => ?_)
    · obtain ⟨g, hg⟩ : ∃ g, gs[k]? = some g := ⟨gs[k]'(by omega), by simp⟩
      have hg2 : g.2.toNat < 65536 := g.2.toNat_lt
      refine G.pick (A := sl m 2 _ _ _) (by repeat (first | with_reducible exact Pick.here | with_reducible apply Pick.there)) (G.slice (fun a0 hv hn hc => by omega) (fun bb T off cap2 pre post hv hpre hcs hpost hle2 => ?_))
      cases hv
      refine G.skip ?_
      refine G.seq ?_
      refine G.block ?_
      refine G.seq ?_
      refine G.region ?_
      refine G.yld (by decide) (Yld.indexAddr Try.runUnderlying31 Try.sizeOf57 rfl rfl (by omega) (by omega)) ?_
      refine G.yld (by decide) (Yld.loadAgg (cs := [vU16 g.1, vU16 g.2]) rfl Try.isAgg57 Try.sizeOf57 (by repeat (first | with_reducible exact Pick.here | with_reducible apply Pick.there)) rfl (aggAt (gpc_at hpre hg))) ?_
      refine G.opc (by decide) (OpC.alloc (cs := [.int .u16 0, .int .u16 0]) Try.zeroValue57 rfl) fun b8 => ?_
      refine G.op0  (OpC.storeAgg (k := 2) Try.sizeOf57 rfl rfl rfl rfl (by repeat (first | with_reducible exact Pick.here | with_reducible apply Pick.there)) (setWhole rfl) (Nat.le_of_ble_eq_true rfl)) fun _ => ?_
      refine G.done ?_
      refine G.seq ?_
      refine G.seq ?_
      refine G.cutB (t := 56) (v := .bool (decide (((g.1.toNat : Int) < (if a + 2 > 2 then a + 2 else 2) ∨ g.2 < g.1) ∨ dist c.tsn (f.next - 1) < g.2.toUInt32))) (.cons (t := 3) rfl (.cons (t := 5) rfl (.cons (t := 6) rfl (.cons (t := 8) rfl (.cons (t := 27) rfl (.cons (t := 28) rfl (.cons (t := 29) rfl .nil))))))) ?_ ?_
      · refine G.draw Try_mixed (.still 0 (.still 1 (.still 2 (.still 3 (.still 4 (.still 5 (.still 6 (.still 7 (.still 8 (.still 9 (.still 10 (.still 11 (.still 12 (.still 13 (.still 14 (.still 15 (.still 16 (.still 17 (.still 18 (.still 19 (.still 20 (.loud 21 true (.still 22 (.still 23 (.done))))))))))))))))))))))))) (by kernel_rfl) (.cons (A := cel _ b3 _ _) (by repeat (first | with_reducible exact Pick.here | with_reducible apply Pick.there)) (.cons (A := cel _ b8 _ _) (by repeat (first | with_reducible exact Pick.here | with_reducible apply Pick.there)) .nil)) ?_
        refine GO.yld (i := 0) rfl (by decide) (Yld.fieldAddr Try_fo57_0 rfl) ?_
        refine GO.yld (i := 1) rfl (by decide) (Yld.load rfl Try.isAgg30 (by repeat (first | with_reducible exact Pick.here | with_reducible apply Pick.there)) rfl) ?_
        refine GO.yld (i := 2) rfl (by decide) (Yld.conv_u16_i Try.runUnderlying30 Try.runUnderlying3 rfl) ?_
        refine GO.yld (i := 3) rfl (by decide) (Yld.move rfl) ?_
        refine GO.yld (i := 4) rfl (by decide) (Yld.add_i (b := (2 : Int)) rfl rfl (by omega)) ?_
        refine GO.yld (i := 5) rfl (by decide) (Yld.max_i (a := (2 : Int)) rfl rfl) ?_
        refine GO.yld (i := 6) rfl (by decide) (Yld.lss_i rfl rfl) ?_
        refine GO.yld (i := 7) rfl (by decide) (Yld.move rfl) ?_
        refine GO.splitB (t := 40) rfl (fun hA => ?_) (fun hA => ?_)
        · refine GO.skipG (i := 8) rfl (by decide) rfl rfl rfl ?_
          refine GO.skipG (i := 9) rfl (by decide) rfl rfl rfl ?_
          refine GO.skipG (i := 10) rfl (by decide) rfl rfl rfl ?_
          refine GO.skipG (i := 11) rfl (by decide) rfl rfl rfl ?_
          refine GO.skipG (i := 12) rfl (by decide) rfl rfl rfl ?_
          refine GO.yld (i := 13) rfl (by decide) (Yld.pickT rfl rfl) ?_
          refine GO.yld (i := 14) rfl (by decide) (Yld.move rfl) ?_
          refine GO.skipG (i := 15) rfl (by decide) rfl rfl rfl ?_
          refine GO.skipG (i := 16) rfl (by decide) rfl rfl rfl ?_
          refine GO.skipG (i := 17) rfl (by decide) rfl rfl rfl ?_
          refine GO.skipG (i := 18) rfl (by decide) rfl rfl rfl ?_
          refine GO.skipG (i := 19) rfl (by decide) rfl rfl rfl ?_
          refine GO.skipG (i := 20) rfl (by decide) rfl rfl rfl ?_
          refine GO.lskipG (i := 21) rfl (by decide) rfl rfl rfl ?_
          refine GO.skipG (i := 22) rfl (by decide) rfl rfl rfl ?_
          refine GO.yld (i := 23) rfl (by decide) (Yld.pickT rfl rfl) ?_
          refine GO.done ?_
          refine G.nil ?_
          exact G.cutEnd (.as (t := 56) rfl (congrArg Value.bool (by simp [*])) (.cons (t := 3) rfl (.cons (t := 5) rfl (.cons (t := 6) rfl (.cons (t := 8) rfl (.cons (t := 27) rfl (.cons (t := 28) rfl (.cons (t := 29) rfl .nil)))))))) (.cons (by repeat (first | with_reducible exact Pick.here | with_reducible apply Pick.there)) (.cons (by repeat (first | with_reducible exact Pick.here | with_reducible apply Pick.there)) (.cons (by repeat (first | with_reducible exact Pick.here | with_reducible apply Pick.there)) (.cons (by repeat (first | with_reducible exact Pick.here | with_reducible apply Pick.there)) (.cons (by repeat (first | with_reducible exact Pick.here | with_reducible apply Pick.there)) (.cons (by repeat (first | with_reducible exact Pick.here | with_reducible apply Pick.there)) (.cons (by repeat (first | with_reducible exact Pick.here | with_reducible apply Pick.there)) .nil)))))))
        · refine GO.yldG (i := 8) rfl (by decide) rfl rfl (Yld.fieldAddr Try_fo57_1 rfl) ?_
          refine GO.yldG (i := 9) rfl (by decide) rfl rfl (Yld.load rfl Try.isAgg30 (by repeat (first | with_reducible exact Pick.here | with_reducible apply Pick.there)) rfl) ?_
          refine GO.yldG (i := 10) rfl (by decide) rfl rfl (Yld.fieldAddr Try_fo57_0 rfl) ?_
          refine GO.yldG (i := 11) rfl (by decide) rfl rfl (Yld.load rfl Try.isAgg30 (by repeat (first | with_reducible exact Pick.here | with_reducible apply Pick.there)) rfl) ?_
          refine GO.yldG (i := 12) rfl (by decide) rfl rfl (Yld.lss_u16 rfl rfl) ?_
          refine GO.yld (i := 13) rfl (by decide) (Yld.pickF rfl rfl) ?_
          refine GO.yld (i := 14) rfl (by decide) (Yld.move rfl) ?_
          refine GO.splitB (t := 47) rfl (fun hB => ?_) (fun hB => ?_)
          · refine GO.skipG (i := 15) rfl (by decide) rfl rfl rfl ?_
            refine GO.skipG (i := 16) rfl (by decide) rfl rfl rfl ?_
            refine GO.skipG (i := 17) rfl (by decide) rfl rfl rfl ?_
            refine GO.skipG (i := 18) rfl (by decide) rfl rfl rfl ?_
            refine GO.skipG (i := 19) rfl (by decide) rfl rfl rfl ?_
            refine GO.skipG (i := 20) rfl (by decide) rfl rfl rfl ?_
            refine GO.lskipG (i := 21) rfl (by decide) rfl rfl rfl ?_
            refine GO.skipG (i := 22) rfl (by decide) rfl rfl rfl ?_
            refine GO.yld (i := 23) rfl (by decide) (Yld.pickT rfl rfl) ?_
            refine GO.done ?_
            refine G.nil ?_
            exact G.cutEnd (.as (t := 56) rfl (congrArg Value.bool (by simp [*])) (.cons (t := 3) rfl (.cons (t := 5) rfl (.cons (t := 6) rfl (.cons (t := 8) rfl (.cons (t := 27) rfl (.cons (t := 28) rfl (.cons (t := 29) rfl .nil)))))))) (.cons (by repeat (first | with_reducible exact Pick.here | with_reducible apply Pick.there)) (.cons (by repeat (first | with_reducible exact Pick.here | with_reducible apply Pick.there)) (.cons (by repeat (first | with_reducible exact Pick.here | with_reducible apply Pick.there)) (.cons (by repeat (first | with_reducible exact Pick.here | with_reducible apply Pick.there)) (.cons (by repeat (first | with_reducible exact Pick.here | with_reducible apply Pick.there)) (.cons (by repeat (first | with_reducible exact Pick.here | with_reducible apply Pick.there)) (.cons (by repeat (first | with_reducible exact Pick.here | with_reducible apply Pick.there)) .nil)))))))
          · refine GO.yldG (i := 15) rfl (by decide) rfl rfl (Yld.fieldAddr Try_fo57_1 rfl) ?_
            refine GO.yldG (i := 16) rfl (by decide) rfl rfl (Yld.load rfl Try.isAgg30 (by repeat (first | with_reducible exact Pick.here | with_reducible apply Pick.there)) rfl) ?_
            refine GO.yldG (i := 17) rfl (by decide) rfl rfl (Yld.conv_u16_u32 Try.runUnderlying30 Try.runUnderlying22 rfl) ?_
            refine GO.yldG (i := 18) rfl (by decide) rfl rfl (Yld.fieldAddr Try_fo36_5 rfl) ?_
            refine GO.yldG (i := 19) rfl (by decide) rfl rfl (Yld.load rfl Try.isAgg22 (by repeat (first | with_reducible exact Pick.here | with_reducible apply Pick.there)) rfl) ?_
            refine GO.yldG (i := 20) rfl (by decide) rfl rfl (Yld.move rfl) ?_
            refine GO.opG (i := 21) rfl (by decide) rfl rfl (OpC.call Try.call26 rfl (dist_spec _ _) .nil) (fun _ => (.cons (A := cel _ b3 _ _) (by repeat (first | with_reducible exact Pick.here | with_reducible apply Pick.there)) (.cons (A := cel _ b8 _ _) (by repeat (first | with_reducible exact Pick.here | with_reducible apply Pick.there)) .nil))) fun v => ?_
            refine GO.lift ?_
            rintro rfl
            refine GO.yldG (i := 22) rfl (by decide) rfl rfl (Yld.gtr_u32 rfl rfl) ?_
            refine GO.yld (i := 23) rfl (by decide) (Yld.pickF rfl rfl) ?_
            refine GO.done ?_
            refine G.nil ?_
            exact G.cutEnd (.as (t := 56) rfl (congrArg Value.bool (by simp [*])) (.cons (t := 3) rfl (.cons (t := 5) rfl (.cons (t := 6) rfl (.cons (t := 8) rfl (.cons (t := 27) rfl (.cons (t := 28) rfl (.cons (t := 29) rfl .nil)))))))) (.cons (by repeat (first | with_reducible exact Pick.here | with_reducible apply Pick.there)) (.cons (by repeat (first | with_reducible exact Pick.here | with_reducible apply Pick.there)) (.cons (by repeat (first | with_reducible exact Pick.here | with_reducible apply Pick.there)) (.cons (by repeat (first | with_reducible exact Pick.here | with_reducible apply Pick.there)) (.cons (by repeat (first | with_reducible exact Pick.here | with_reducible apply Pick.there)) (.cons (by repeat (first | with_reducible exact Pick.here | with_reducible apply Pick.there)) (.cons (by repeat (first | with_reducible exact Pick.here | with_reducible apply Pick.there)) .nil)))))))
      refine G.condP rfl (fun hq => ?_) (fun hq => ?_)
      · refine G.seq ?_
        refine G.region ?_
        refine G.yld (by decide) (Yld.assign rfl) ?_
        refine G.done ?_
        refine G.ret ?_
        refine G.x_ret_block (G.x_ret_then ?_)
        refine G.x_ret_then (G.x_ret_then ?_)
        refine G.unframe (by repeat (first | exact App.nil | apply App.cons)) ?_
        refine G.x_ret_block (G.x_ret_then ?_)
        refine G.ret1 (.inr rfl) Try.results48 (.tmp rfl) ?_
        exact ⟨_, (.star (.lift (by rw [hB0, ← hres, badGs_drop hg, if_pos hq])) (.star (entF (.pick (by repeat (first | with_reducible exact Pick.here | with_reducible apply Pick.there))) (.pick (by repeat (first | with_reducible exact Pick.here | with_reducible apply Pick.there))) rfl (.pick (by repeat (first | with_reducible exact Pick.here | with_reducible apply Pick.there))) (.pick (by repeat (first | with_reducible exact Pick.here | with_reducible apply Pick.there)))) (.imp (.pick (A := cel _ bb _ _) (by repeat (first | with_reducible exact Pick.here | with_reducible apply Pick.there))) fun _ h => .inr ⟨bb, T, off, _, pre, post, rfl, hpre, hcs, hpost, hle2, h⟩)))⟩
      · refine G.skip ?_
        refine G.region ?_
        refine G.yld (by decide) (Yld.fieldAddr Try_fo57_1 rfl) ?_
        refine G.yld (by decide) (Yld.load rfl Try.isAgg30 (by repeat (first | with_reducible exact Pick.here | with_reducible apply Pick.there)) rfl) ?_
        refine G.yld (by decide) (Yld.conv_u16_i Try.runUnderlying30 Try.runUnderlying3 rfl) ?_
        refine G.yld (by decide) (Yld.assign rfl) ?_
        refine G.done ?_
        refine G.nil ?_
        refine G.x_block (G.x_then ?_)
        refine G.region ?_
        refine G.yld (by decide) (Yld.add_i (b := (1 : Int)) rfl rfl (by omega)) ?_
        refine G.yld (by decide) (Yld.move rfl) ?_
        refine G.done ?_
        refine G.nil ?_
        refine G.x_then ?_
        exact G.againE (k + 1, (g.2.toNat : Int)) (by show gs.length - (k + 1) < gs.length - k; omega) (.cons (t := 3) rfl (.cons (t := 5) rfl (.cons (t := 6) rfl (.cons (t := 27) rfl (.cons (t := 28) rfl (.cons (t := 29) rfl .nil)))))) (.cons (.lift ⟨by omega, by omega, by rw [← hres, badGs_drop hg, if_neg hq]⟩) (.cons (.imp (.pick (A := cel _ bb _ _) (by repeat (first | with_reducible exact Pick.here | with_reducible apply Pick.there))) fun _ h => .inr ⟨bb, T, off, _, pre, post, rfl, hpre, hcs, hpost, hle2, h⟩) (.cons (.pick (by repeat (first | with_reducible exact Pick.here | with_reducible apply Pick.there))) (.cons (.pick (by repeat (first | with_reducible exact Pick.here | with_reducible apply Pick.there))) (.cons (.pick (by repeat (first | with_reducible exact Pick.here | with_reducible apply Pick.there))) (.cons (.pick (by repeat (first | with_reducible exact Pick.here | with_reducible apply Pick.there))) (.cons (.pick (by repeat (first | with_reducible exact Pick.here | with_reducible apply Pick.there))) .nil)))))))
    · refine G.exit ?_
      refine G.x_exit_then (G.x_exit_then ?_)
      refine G.x_exit_block (G.x_then ?_)
      refine G.unframe (by repeat (first | exact App.nil | apply App.cons)) ?_
      refine G.seq ?_
      refine G.region ?_
      refine G.yld (by decide) (Yld.assign rfl) ?_
      refine G.done ?_
      refine G.ret ?_
      refine G.ret1 (.inr rfl) Try.results48 (.tmp rfl) ?_
      exact ⟨_, (.star (.lift (by rw [hB0, ← hres, List.drop_eq_nil_of_le (by omega)]; rfl)) (.star (entF (.pick (by repeat (first | with_reducible exact Pick.here | with_reducible apply Pick.there))) (.pick (by repeat (first | with_reducible exact Pick.here | with_reducible apply Pick.there))) rfl (.pick (by repeat (first | with_reducible exact Pick.here | with_reducible apply Pick.there))) (.pick (by repeat (first | with_reducible exact Pick.here | with_reducible apply Pick.there)))) (.pick (A := sl m 2 _ _ _) (by repeat (first | with_reducible exact Pick.here | with_reducible apply Pick.there)))))⟩
end Go.Fl
