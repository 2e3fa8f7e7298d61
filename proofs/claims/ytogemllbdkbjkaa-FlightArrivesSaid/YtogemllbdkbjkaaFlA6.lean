/- Contracts, printed by a program of mine and proved by Lean. -/
import Derived.Test.YtogemllbdkbjkaaFlPointF
import Derived.Test.YtogemllbdkbjkaaFlA5
import Derived.Test.YtogemllbdkbjkaaFlKeys
set_option linter.unusedVariables false
set_option linter.unusedSimpArgs false
namespace Go.Fl
open Go Go.Sl Go.Proofs
set_option maxRecDepth 10000
set_option linter.unusedVariables false
/-- what slices.SortFunc does at the order of skips (a claim about the library: shown elsewhere) -/
def SortSkips : Prop := ∀ (v : Value) (l : List Skip), l.length ≤ 1000000000 → (l.map fun s => (s.stream, s.loose)).Nodup → Sl.Spec Try.prog 45 [v, .func (.func 46) #[] #[]].toArray [sl true 3 v l.length (skc l)] (fun _ => sl true 3 v l.length (skc (sortSk l)))
theorem skc_snoc (l : List Skip) (s : Skip) : skc l ++ skv s = skc (l ++ [s]) := by simp [skc]
theorem point_spec (hss : SortSkips) (b : Nat) (f : Fm) (inter : Bool) (hf : f.ok) : Sl.Spec Try.prog 16 [ptr b, .bool inter].toArray [isF b f] (fun v => ex fun sv => star (lift (v = .tuple #[.agg (ckv (ptO (f.point inter)).1 nilS nilS sv nilS nilS).toArray, .bool (f.point inter).isSome])) (star (sl true 3 sv (ptO (f.point inter)).2.length (skc (ptO (f.point inter)).2)) (isF b f))) := by
  refine Sl.Spec.of_body (vs := [ptr b, .bool inter]) Try.func16 Try.ntmps16 (Nat.le_of_ble_eq_true rfl) rfl fun w0 F => ?_
  have hsmall := hf.len
  cases inter
  · refine G.seq ?_
    refine G.region ?_
    refine G.opc (by decide) (OpC.alloc (cs := [.int .u8 0, .bool false, .bool false, .bool false, .bool false, .int .u32 0, .int .u16 0, .int .u32 0, .int .u32 0, .int .u32 0, .int .u32 0, .int .u32 0, .int .u16 0, .int .u16 0, .slice none 0 0, .slice none 0 0, .slice none 0 0, .slice none 0 0, .slice none 0 0]) Try.zeroValue36 rfl) fun b4 => ?_
    refine G.yld (by decide) (Yld.assign rfl) ?_
    refine G.done ?_
    refine G.seq ?_
    refine G.region ?_
    refine G.yld (by decide) (Yld.buildS (cs := [_, _, _, _, _, _, _, _, _, _, _, _, _, _, _, _, _, _, _]) Try_z36 Try_pl36 rfl rfl (.cons rfl rfl (Nat.le_of_ble_eq_true rfl) .nil) rfl) ?_
    refine G.opc (by decide) (OpC.alloc (cs := [.int .u8 0, .bool false, .bool false, .bool false, .bool false, .int .u32 0, .int .u16 0, .int .u32 0, .int .u32 0, .int .u32 0, .int .u32 0, .int .u32 0, .int .u16 0, .int .u16 0, .slice none 0 0, .slice none 0 0, .slice none 0 0, .slice none 0 0, .slice none 0 0]) Try.zeroValue36 rfl) fun b6 => ?_
    refine G.op0  (OpC.storeAgg (k := 19) Try.sizeOf36 rfl rfl rfl rfl (by repeat (first | with_reducible exact Pick.here | with_reducible apply Pick.there)) (setWhole rfl) (Nat.le_of_ble_eq_true rfl)) fun _ => ?_
    refine G.done ?_
    refine G.seq ?_
    refine G.seq ?_
    refine G.region ?_
    refine G.yld (by decide) (Yld.move rfl) ?_
    refine G.done ?_
    refine G.condF rfl ?_
    refine G.skip ?_
    refine G.seq ?_
    refine G.region ?_
    refine G.yld (by decide) (Yld.assign rfl) ?_
    refine G.done ?_
    refine G.seq ?_
    refine G.region ?_
    refine G.opc (by decide) (OpC.makeMap) fun rs => ?_
    refine G.conv (A := pt true rs _) (by repeat (first | with_reducible exact Pick.here | with_reducible apply Pick.there)) (A' := mapA encSL rs (mU vU32 (skAll false (f.ps.take 0)))) (fun _ h => mapA_new h) ?_
    refine G.conv (A := cel true b6 36 [.int .u8 192, .bool false, .bool false, .bool false, .bool false, .int .u32 0, .int .u16 0, .int .u32 0, .int .u32 0, .int .u32 0, .int .u32 0, .int .u32 0, .int .u16 0, .int .u16 0, .slice none 0 0, .slice none 0 0, .slice none 0 0, .slice none 0 0, .slice none 0 0]) (by repeat (first | with_reducible exact Pick.here | with_reducible apply Pick.there)) (A' := cel true b6 36 (ckv { kind := 192 } nilS nilS nilS nilS nilS)) (fun _ h => h) ?_
    refine G.yld (by decide) (Yld.assign rfl) ?_
    refine G.done ?_
    refine G.seq ?_
    refine G.region ?_
    refine G.yld (by decide) (Yld.assign rfl) ?_
    refine G.done ?_
    refine G.seq ?_
    refine G.seq ?_
    refine G.pick (A := isF b f) (by repeat (first | with_reducible exact Pick.here | with_reducible apply Pick.there)) ?_
    refine G.openF fun v bs r hlen => ?_
    refine G.pick (A := sl true 1 v _ _) (by repeat (first | with_reducible exact Pick.here | with_reducible apply Pick.there)) (G.slv fun a cap hv hle hl => ?_)
    obtain rfl := hv
    refine G.region ?_
    refine G.yld (by decide) (Yld.move rfl) ?_
    refine G.yld (by decide) (Yld.nilCheck rfl) ?_
    refine G.yld (by decide) (Yld.fieldAddr Try_fo87_1 rfl) ?_
    refine G.yld (by decide) (Yld.load rfl Try.isAgg85 (by repeat (first | with_reducible exact Pick.here | with_reducible apply Pick.there)) rfl) ?_
    refine G.yld (by decide) (Yld.len_slice Try.runUnderlying85 rfl) ?_
    refine G.yld (by decide) (Yld.move rfl) ?_
    refine G.done ?_
    refine G.cutX (X := Nat) (fun k => [(0, ptr b), (4, ptr b4), (6, ptr b6), (7, .bool (decide (0 < k))), (8, .map (some rs)), (9, vI k)]) (fun k => [lift (goneN f.ps = k), cel true b4 36 [.int .u8 0, .bool false, .bool false, .bool false, .bool false, .int .u32 0, .int .u16 0, .int .u32 0, .int .u32 0, .int .u32 0, .int .u32 0, .int .u32 0, .int .u16 0, .int .u16 0, .slice none 0 0, .slice none 0 0, .slice none 0 0, .slice none 0 0, .slice none 0 0], cel true b6 36 (ckv { kind := 192 } nilS nilS nilS nilS nilS), cel true b 87 [vU32 f.mark, .slice a f.ps.length cap, .map (some r)], sl true 1 (.slice a f.ps.length cap) f.ps.length (ptc bs), isPs bs f.ps, mapA encI r (goneC f.gone), mapA encSL rs (mU vU32 (skAll false (f.ps.take k)))]) ?_ (fun k => ?_)
    · refine G.block ?_
      refine G.loopE (X := Nat) (fun k => [(0, ptr b), (1, .bool false), (4, ptr b4), (6, ptr b6), (7, .bool (decide (0 < k))), (8, .map (some rs)), (9, vI k), (24, .slice a f.ps.length cap), (25, vI f.ps.length), (26, vI k)]) (fun k => [lift (k ≤ f.ps.length ∧ ∀ q ∈ f.ps.take k, q.how = 3), cel true b4 36 [.int .u8 0, .bool false, .bool false, .bool false, .bool false, .int .u32 0, .int .u16 0, .int .u32 0, .int .u32 0, .int .u32 0, .int .u32 0, .int .u32 0, .int .u16 0, .int .u16 0, .slice none 0 0, .slice none 0 0, .slice none 0 0, .slice none 0 0, .slice none 0 0], cel true b6 36 (ckv { kind := 192 } nilS nilS nilS nilS nilS), cel true b 87 [vU32 f.mark, .slice a f.ps.length cap, .map (some r)], sl true 1 (.slice a f.ps.length cap) f.ps.length (ptc bs), isPs bs f.ps, mapA encI r (goneC f.gone), mapA encSL rs (mU vU32 (skAll false (f.ps.take k)))]) (fun k => f.ps.length - k) 0 (.cons (t := 0) rfl (.cons (t := 1) rfl (.cons (t := 4) rfl (.cons (t := 6) rfl (.cons (t := 7) rfl (.cons (t := 8) rfl (.cons (t := 9) rfl (.cons (t := 24) rfl (.cons (t := 25) rfl (.cons (t := 26) rfl .nil)))))))))) (.cons (.lift ⟨Nat.zero_le _, by simp⟩) (Ents.of_picks (.cons (by repeat (first | with_reducible exact Pick.here | with_reducible apply Pick.there)) (.cons (by repeat (first | with_reducible exact Pick.here | with_reducible apply Pick.there)) (.cons (by repeat (first | with_reducible exact Pick.here | with_reducible apply Pick.there)) (.cons (by repeat (first | with_reducible exact Pick.here | with_reducible apply Pick.there)) (.cons (by repeat (first | with_reducible exact Pick.here | with_reducible apply Pick.there)) (.cons (by repeat (first | with_reducible exact Pick.here | with_reducible apply Pick.there)) (.cons (by repeat (first | with_reducible exact Pick.here | with_reducible apply Pick.there)) .nil))))))))) fun k => ?_
      refine G.lift fun hI => ?_
      obtain ⟨hk, hg⟩ := hI
      refine G.seq ?_
      refine G.region ?_
      refine G.yld (by decide) (Yld.lss_i rfl rfl) ?_
      refine G.done ?_
      refine G.seq ?_
      refine G.condP rfl (fun hlt => ?_) (fun hlt => ?_)
      · obtain ⟨bk, hbk⟩ : ∃ b, bs[k]? = some b := ⟨bs[k]'(by omega), by simp⟩
        obtain ⟨p, hp⟩ : ∃ p, f.ps[k]? = some p := ⟨f.ps[k]'(by omega), by simp⟩
        refine G.pick (A := sl _ _ _ _ _) (by repeat (first | with_reducible exact Pick.here | with_reducible apply Pick.there)) (G.slice (fun a0 hv hn hc => by omega) (fun bb T off cap2 pre post hv hpre hcs hpost hle2 => ?_))
        cases hv
        refine G.skip ?_
        refine G.seq ?_
        refine G.block ?_
        refine G.seq ?_
        refine G.region ?_
        refine G.yld (by decide) (Yld.indexAddr Try.runUnderlying85 Try.sizeOf89 rfl rfl (by omega) (by omega)) ?_
        refine G.yld (by decide) (Yld.load rfl Try.isAgg89 (by repeat (first | with_reducible exact Pick.here | with_reducible apply Pick.there)) (ptc_at hpre hbk)) ?_
        refine G.yld (by decide) (Yld.assign rfl) ?_
        refine G.done ?_
        refine G.seq ?_
        refine G.seq ?_
        refine G.conv (A := isPs bs _) (by repeat (first | with_reducible exact Pick.here | with_reducible apply Pick.there)) (isPs_split hbk hp) ?_
        refine G.star3 ?_
        refine G.ex fun bv => G.star ?_
        refine G.region ?_
        refine G.yld (by decide) (Yld.move rfl) ?_
        refine G.yld (by decide) (Yld.nilCheck rfl) ?_
        refine G.yld (by decide) (Yld.fieldAddr Try_fo93_6 rfl) ?_
        refine G.yld (by decide) (Yld.load rfl Try.isAgg91 (by repeat (first | with_reducible exact Pick.here | with_reducible apply Pick.there)) rfl) ?_
        refine G.yld (by decide) (Yld.neq_i (b := (3 : Int)) rfl rfl) ?_
        refine G.done ?_
        refine G.condP rfl (fun hhow => ?_) (fun hhow => ?_)
        · refine G.exit ?_
          refine G.x_exit_block_ne rfl (G.x_exit_then ?_)
          refine G.x_exit_then (G.x_exit_then ?_)
          refine G.x_exit_block (G.x_then ?_)
          refine G.unframe (by repeat (first | exact App.nil | apply App.cons)) ?_
          refine G.nil ?_
          have hG : goneN f.ps = k := goneN_stop hg hk fun q hq => by rw [hp] at hq; cases hq; exact hhow
          exact G.cutXEnd k (.cons (t := 0) rfl (.cons (t := 4) rfl (.cons (t := 6) rfl (.cons (t := 7) rfl (.cons (t := 8) rfl (.cons (t := 9) rfl .nil)))))) (.cons (.lift hG) (.cons (.pick (by repeat (first | with_reducible exact Pick.here | with_reducible apply Pick.there))) (.cons (.pick (by repeat (first | with_reducible exact Pick.here | with_reducible apply Pick.there))) (.cons (.pick (by repeat (first | with_reducible exact Pick.here | with_reducible apply Pick.there))) (.cons (.imp (.pick (A := cel _ bb _ _) (by repeat (first | with_reducible exact Pick.here | with_reducible apply Pick.there))) fun _ h => .inr ⟨bb, T, off, _, pre, post, rfl, hpre, hcs, hpost, hle2, h⟩) (.cons (entPs hbk (p' := p) (entP (.pick (A := sl false _ bv _ _) (by repeat (first | with_reducible exact Pick.here | with_reducible apply Pick.there))) (.pick (A := cel _ bk _ _) (by repeat (first | with_reducible exact Pick.here | with_reducible apply Pick.there))) rfl) (.pick (A := isPs (bs.take k) _) (by repeat (first | with_reducible exact Pick.here | with_reducible apply Pick.there))) (.pick (A := isPs (bs.drop (k + 1)) _) (by repeat (first | with_reducible exact Pick.here | with_reducible apply Pick.there))) (set_same hp) (by omega)) (.cons (.pick (by repeat (first | with_reducible exact Pick.here | with_reducible apply Pick.there))) (.cons (.pick (by repeat (first | with_reducible exact Pick.here | with_reducible apply Pick.there))) .nil))))))))
        · have hhow3 : p.how = 3 := by omega
          have hg2 : ∀ q ∈ f.ps.take (k + 1), q.how = 3 := fun q hq => by rw [List.take_add_one, hp] at hq; rcases List.mem_append.1 hq with h | h; exact hg q h; simp at h; exact h ▸ hhow3
          refine G.skip ?_
          refine G.seq ?_
          refine G.region ?_
          refine G.yld (by decide) (Yld.move rfl) ?_
          refine G.yld (by decide) (Yld.add_i (b := (1 : Int)) rfl rfl (by omega)) ?_
          refine G.yld (by decide) (Yld.assign rfl) ?_
          refine G.done ?_
          refine G.seq ?_
          refine G.region ?_
          refine G.yld (by decide) (Yld.assign rfl) ?_
          refine G.done ?_
          refine G.seq ?_
          refine G.draw Try_mixed (.still 0 (.still 1 (.still 2 (.still 3 (.still 4 (.still 5 (.still 6 (.still 7 (.still 8 (.still 9 (.still 10 (.loud 11 true (.loud 12 false (.done)))))))))))))) (by kernel_rfl) (.cons (A := cel _ bk _ _) (by repeat (first | with_reducible exact Pick.here | with_reducible apply Pick.there)) .nil) ?_
          refine GO.yld (i := 0) rfl (by decide) (Yld.move rfl) ?_
          refine GO.yld (i := 1) rfl (by decide) (Yld.nilCheck rfl) ?_
          refine GO.yld (i := 2) rfl (by decide) (Yld.fieldAddr Try_fo93_0 rfl) ?_
          refine GO.yld (i := 3) rfl (by decide) (Yld.fieldAddr Try_fo36_6 rfl) ?_
          refine GO.yld (i := 4) rfl (by decide) (Yld.load rfl Try.isAgg30 (by repeat (first | with_reducible exact Pick.here | with_reducible apply Pick.there)) rfl) ?_
          refine GO.yld (i := 5) rfl (by decide) (Yld.move rfl) ?_
          refine GO.yld (i := 6) rfl (by decide) (Yld.nilCheck rfl) ?_
          refine GO.yld (i := 7) rfl (by decide) (Yld.fieldAddr Try_fo93_0 rfl) ?_
          refine GO.yld (i := 8) rfl (by decide) (Yld.fieldAddr Try_fo36_3 rfl) ?_
          refine GO.yld (i := 9) rfl (by decide) (Yld.load rfl Try.isAgg4 (by repeat (first | with_reducible exact Pick.here | with_reducible apply Pick.there)) rfl) ?_
          refine GO.yld (i := 10) rfl (by decide) (Yld.buildS (cs := [_, _]) Try_z101 Try_pl101 rfl rfl (.cons rfl rfl (Nat.le_of_ble_eq_true rfl) (.cons rfl rfl (Nat.le_of_ble_eq_true rfl) .nil)) rfl) ?_
          refine GO.opc (i := 11) rfl (by decide) (OpC.alloc (cs := [.int .u16 0, .bool false]) Try.zeroValue101 rfl) (fun _ => (.cons (A := cel _ bk _ _) (by repeat (first | with_reducible exact Pick.here | with_reducible apply Pick.there)) .nil)) fun b12 => ?_
          refine GO.x ?_
          refine GX.op0 (i := 12) rfl  (OpC.storeAgg (k := 2) Try.sizeOf101 rfl rfl rfl rfl (by repeat (first | with_reducible exact Pick.here | with_reducible apply Pick.there)) (setWhole rfl) (Nat.le_of_ble_eq_true rfl)) fun _ => ?_
          refine GX.done ?_
          refine G.seq ?_
          refine G.seq ?_
          refine G.region ?_
          refine G.yld (by decide) (Yld.fieldAddr Try_fo101_1 rfl) ?_
          refine G.yld (by decide) (Yld.load rfl Try.isAgg4 (by repeat (first | with_reducible exact Pick.here | with_reducible apply Pick.there)) rfl) ?_
          refine G.yld (by decide) (Yld.move rfl) ?_
          refine G.splitX (t := 50) rfl (fun hlo => ?_) (fun hlo => ?_)
          · refine G.yldG (by decide) rfl rfl (Yld.move rfl) ?_
            refine G.yldG (by decide) rfl rfl (Yld.not rfl) ?_
            refine G.yld (by decide) (Yld.pickT rfl rfl) ?_
            refine G.done ?_
            refine G.condT rfl ?_
            refine G.exit ?_
            refine G.x_exit_block (G.x_then ?_)
            refine G.region ?_
            refine G.yld (by decide) (Yld.add_i (b := (1 : Int)) rfl rfl (by omega)) ?_
            refine G.yld (by decide) (Yld.move rfl) ?_
            refine G.done ?_
            refine G.nil ?_
            refine G.x_then ?_
            exact G.againE (k + 1) (by omega) (.cons (t := 0) rfl (.cons (t := 1) rfl (.cons (t := 4) rfl (.cons (t := 6) rfl (.as (t := 7) rfl (congrArg Value.bool (by simp)) (.cons (t := 8) rfl (.cons (t := 9) rfl (.cons (t := 24) rfl (.cons (t := 25) rfl (.cons (t := 26) rfl .nil)))))))))) (.cons (.lift ⟨by omega, hg2⟩) (.cons (.pick (by repeat (first | with_reducible exact Pick.here | with_reducible apply Pick.there))) (.cons (.pick (by repeat (first | with_reducible exact Pick.here | with_reducible apply Pick.there))) (.cons (.pick (by repeat (first | with_reducible exact Pick.here | with_reducible apply Pick.there))) (.cons (.imp (.pick (A := cel _ bb _ _) (by repeat (first | with_reducible exact Pick.here | with_reducible apply Pick.there))) fun _ h => .inr ⟨bb, T, off, _, pre, post, rfl, hpre, hcs, hpost, hle2, h⟩) (.cons (entPs hbk (p' := p) (entP (.pick (A := sl false _ bv _ _) (by repeat (first | with_reducible exact Pick.here | with_reducible apply Pick.there))) (.pick (A := cel _ bk _ _) (by repeat (first | with_reducible exact Pick.here | with_reducible apply Pick.there))) rfl) (.pick (A := isPs (bs.take k) _) (by repeat (first | with_reducible exact Pick.here | with_reducible apply Pick.there))) (.pick (A := isPs (bs.drop (k + 1)) _) (by repeat (first | with_reducible exact Pick.here | with_reducible apply Pick.there))) (set_same hp) (by omega)) (.cons (.pick (by repeat (first | with_reducible exact Pick.here | with_reducible apply Pick.there))) (.cons (.imp (.pick (A := mapA encSL _ _) (by repeat (first | with_reducible exact Pick.here | with_reducible apply Pick.there))) fun _ h => by rw [skAll_succ hp]; simpa [skStep, hlo] using h) .nil))))))))
          · refine G.skipG (by decide) rfl rfl rfl ?_
            refine G.skipG (by decide) rfl rfl rfl ?_
            refine G.yld (by decide) (Yld.pickF rfl rfl) ?_
            refine G.done ?_
            refine G.condF rfl ?_
            have hal := alook_mU (e := vU32) (skAll false (f.ps.take k)) (skKey p)
            rcases hgl : glook (skAll false (f.ps.take k)) (skKey p) with _ | mid
            · rw [hgl] at hal
              refine G.skip ?_
              refine G.seq ?_
              refine G.region ?_
              refine G.yld (by decide) (Yld.move rfl) ?_
              refine G.yld (by decide) (Yld.loadAgg (cs := [_, _]) rfl Try.isAgg101 Try.sizeOf101 (by repeat (first | with_reducible exact Pick.here | with_reducible apply Pick.there)) rfl (aggAt rfl)) ?_
              refine G.yld (by decide) (Yld.lookupN (k := skKey p) key101 Try.runUnderlying99 Try.zeroValue22 rfl rfl (by repeat (first | with_reducible exact Pick.here | with_reducible apply Pick.there)) hal) ?_
              refine G.yld (by decide) (Yld.move rfl) ?_
              refine G.yld (by decide) (Yld.extract rfl rfl) ?_
              refine G.yld (by decide) (Yld.extract rfl rfl) ?_
              refine G.yld (by decide) (Yld.assign rfl) ?_
              refine G.yld (by decide) (Yld.assign rfl) ?_
              refine G.done ?_
              refine G.seq ?_
              refine G.region ?_
              refine G.yld (by decide) (Yld.move rfl) ?_
              refine G.done ?_
              refine G.condF rfl ?_
              refine G.draw Try_mixed (.still 0 (.still 1 (.still 2 (.still 3 (.still 4 (.still 5 (.still 6 (.loud 7 false (.done))))))))) (by kernel_rfl) (.cons (A := cel _ bk _ _) (by repeat (first | with_reducible exact Pick.here | with_reducible apply Pick.there)) (.cons (A := cel _ b12 _ _) (by repeat (first | with_reducible exact Pick.here | with_reducible apply Pick.there)) .nil)) ?_
              refine GO.yld (i := 0) rfl (by decide) (Yld.move rfl) ?_
              refine GO.yld (i := 1) rfl (by decide) (Yld.loadAgg (cs := [_, _]) rfl Try.isAgg101 Try.sizeOf101 (by repeat (first | with_reducible exact Pick.here | with_reducible apply Pick.there)) rfl (aggAt rfl)) ?_
              refine GO.yld (i := 2) rfl (by decide) (Yld.move rfl) ?_
              refine GO.yld (i := 3) rfl (by decide) (Yld.nilCheck rfl) ?_
              refine GO.yld (i := 4) rfl (by decide) (Yld.fieldAddr Try_fo93_0 rfl) ?_
              refine GO.yld (i := 5) rfl (by decide) (Yld.fieldAddr Try_fo36_7 rfl) ?_
              refine GO.yld (i := 6) rfl (by decide) (Yld.load rfl Try.isAgg22 (by repeat (first | with_reducible exact Pick.here | with_reducible apply Pick.there)) rfl) ?_
              refine GO.x ?_
              refine GX.op0 (i := 7) rfl  (OpC.mapUpdate (enc := encSL) (k := skKey p) key101 Try.runUnderlying99 rfl rfl rfl (by repeat (first | with_reducible exact Pick.here | with_reducible apply Pick.there))) fun _ => ?_
              rw [aset_mU]
              refine GX.done ?_
              refine G.nil ?_
              refine G.x_block (G.x_then ?_)
              refine G.region ?_
              refine G.yld (by decide) (Yld.add_i (b := (1 : Int)) rfl rfl (by omega)) ?_
              refine G.yld (by decide) (Yld.move rfl) ?_
              refine G.done ?_
              refine G.nil ?_
              refine G.x_then ?_
              exact G.againE (k + 1) (by omega) (.cons (t := 0) rfl (.cons (t := 1) rfl (.cons (t := 4) rfl (.cons (t := 6) rfl (.as (t := 7) rfl (congrArg Value.bool (by simp)) (.cons (t := 8) rfl (.cons (t := 9) rfl (.cons (t := 24) rfl (.cons (t := 25) rfl (.cons (t := 26) rfl .nil)))))))))) (.cons (.lift ⟨by omega, hg2⟩) (.cons (.pick (by repeat (first | with_reducible exact Pick.here | with_reducible apply Pick.there))) (.cons (.pick (by repeat (first | with_reducible exact Pick.here | with_reducible apply Pick.there))) (.cons (.pick (by repeat (first | with_reducible exact Pick.here | with_reducible apply Pick.there))) (.cons (.imp (.pick (A := cel _ bb _ _) (by repeat (first | with_reducible exact Pick.here | with_reducible apply Pick.there))) fun _ h => .inr ⟨bb, T, off, _, pre, post, rfl, hpre, hcs, hpost, hle2, h⟩) (.cons (entPs hbk (p' := p) (entP (.pick (A := sl false _ bv _ _) (by repeat (first | with_reducible exact Pick.here | with_reducible apply Pick.there))) (.pick (A := cel _ bk _ _) (by repeat (first | with_reducible exact Pick.here | with_reducible apply Pick.there))) rfl) (.pick (A := isPs (bs.take k) _) (by repeat (first | with_reducible exact Pick.here | with_reducible apply Pick.there))) (.pick (A := isPs (bs.drop (k + 1)) _) (by repeat (first | with_reducible exact Pick.here | with_reducible apply Pick.there))) (set_same hp) (by omega)) (.cons (.pick (by repeat (first | with_reducible exact Pick.here | with_reducible apply Pick.there))) (.cons (.imp (.pick (A := mapA encSL _ _) (by repeat (first | with_reducible exact Pick.here | with_reducible apply Pick.there))) fun _ h => by rw [skAll_succ hp]; simpa [skStep, hlo, hgl] using h) .nil))))))))
            · rw [hgl] at hal
              refine G.skip ?_
              refine G.seq ?_
              refine G.region ?_
              refine G.yld (by decide) (Yld.move rfl) ?_
              refine G.yld (by decide) (Yld.loadAgg (cs := [_, _]) rfl Try.isAgg101 Try.sizeOf101 (by repeat (first | with_reducible exact Pick.here | with_reducible apply Pick.there)) rfl (aggAt rfl)) ?_
              refine G.yld (by decide) (Yld.lookupS (k := skKey p) key101 Try.runUnderlying99 Try.zeroValue22 rfl rfl (by repeat (first | with_reducible exact Pick.here | with_reducible apply Pick.there)) hal) ?_
              refine G.yld (by decide) (Yld.move rfl) ?_
              refine G.yld (by decide) (Yld.extract rfl rfl) ?_
              refine G.yld (by decide) (Yld.extract rfl rfl) ?_
              refine G.yld (by decide) (Yld.assign rfl) ?_
              refine G.yld (by decide) (Yld.assign rfl) ?_
              refine G.done ?_
              refine G.seq ?_
              refine G.region ?_
              refine G.yld (by decide) (Yld.move rfl) ?_
              refine G.done ?_
              refine G.condT rfl ?_
              refine G.draw Try_mixed (.still 0 (.still 1 (.still 2 (.still 3 (.still 4 (.still 5 (.still 6 (.still 7 (.loud 8 true (.loud 9 false (.done))))))))))) (by kernel_rfl) (.cons (A := cel _ bk _ _) (by repeat (first | with_reducible exact Pick.here | with_reducible apply Pick.there)) (.cons (A := cel _ b12 _ _) (by repeat (first | with_reducible exact Pick.here | with_reducible apply Pick.there)) .nil)) ?_
              refine GO.yld (i := 0) rfl (by decide) (Yld.move rfl) ?_
              refine GO.yld (i := 1) rfl (by decide) (Yld.loadAgg (cs := [_, _]) rfl Try.isAgg101 Try.sizeOf101 (by repeat (first | with_reducible exact Pick.here | with_reducible apply Pick.there)) rfl (aggAt rfl)) ?_
              refine GO.yld (i := 2) rfl (by decide) (Yld.move rfl) ?_
              refine GO.yld (i := 3) rfl (by decide) (Yld.move rfl) ?_
              refine GO.yld (i := 4) rfl (by decide) (Yld.nilCheck rfl) ?_
              refine GO.yld (i := 5) rfl (by decide) (Yld.fieldAddr Try_fo93_0 rfl) ?_
              refine GO.yld (i := 6) rfl (by decide) (Yld.fieldAddr Try_fo36_7 rfl) ?_
              refine GO.yld (i := 7) rfl (by decide) (Yld.load rfl Try.isAgg22 (by repeat (first | with_reducible exact Pick.here | with_reducible apply Pick.there)) rfl) ?_
              refine GO.opc (i := 8) rfl (by decide) (OpC.call Try.call44 rfl (later_spec _ _) .nil) (fun _ => (.cons (A := cel _ bk _ _) (by repeat (first | with_reducible exact Pick.here | with_reducible apply Pick.there)) (.cons (A := cel _ b12 _ _) (by repeat (first | with_reducible exact Pick.here | with_reducible apply Pick.there)) .nil))) fun v => ?_
              refine GO.lift ?_
              rintro rfl
              refine GO.x ?_
              refine GX.op0 (i := 9) rfl  (OpC.mapUpdate (enc := encSL) (k := skKey p) key101 Try.runUnderlying99 rfl rfl rfl (by repeat (first | with_reducible exact Pick.here | with_reducible apply Pick.there))) fun _ => ?_
              rw [aset_mU]
              refine GX.done ?_
              refine G.nil ?_
              refine G.x_block (G.x_then ?_)
              refine G.region ?_
              refine G.yld (by decide) (Yld.add_i (b := (1 : Int)) rfl rfl (by omega)) ?_
              refine G.yld (by decide) (Yld.move rfl) ?_
              refine G.done ?_
              refine G.nil ?_
              refine G.x_then ?_
              exact G.againE (k + 1) (by omega) (.cons (t := 0) rfl (.cons (t := 1) rfl (.cons (t := 4) rfl (.cons (t := 6) rfl (.as (t := 7) rfl (congrArg Value.bool (by simp)) (.cons (t := 8) rfl (.cons (t := 9) rfl (.cons (t := 24) rfl (.cons (t := 25) rfl (.cons (t := 26) rfl .nil)))))))))) (.cons (.lift ⟨by omega, hg2⟩) (.cons (.pick (by repeat (first | with_reducible exact Pick.here | with_reducible apply Pick.there))) (.cons (.pick (by repeat (first | with_reducible exact Pick.here | with_reducible apply Pick.there))) (.cons (.pick (by repeat (first | with_reducible exact Pick.here | with_reducible apply Pick.there))) (.cons (.imp (.pick (A := cel _ bb _ _) (by repeat (first | with_reducible exact Pick.here | with_reducible apply Pick.there))) fun _ h => .inr ⟨bb, T, off, _, pre, post, rfl, hpre, hcs, hpost, hle2, h⟩) (.cons (entPs hbk (p' := p) (entP (.pick (A := sl false _ bv _ _) (by repeat (first | with_reducible exact Pick.here | with_reducible apply Pick.there))) (.pick (A := cel _ bk _ _) (by repeat (first | with_reducible exact Pick.here | with_reducible apply Pick.there))) rfl) (.pick (A := isPs (bs.take k) _) (by repeat (first | with_reducible exact Pick.here | with_reducible apply Pick.there))) (.pick (A := isPs (bs.drop (k + 1)) _) (by repeat (first | with_reducible exact Pick.here | with_reducible apply Pick.there))) (set_same hp) (by omega)) (.cons (.pick (by repeat (first | with_reducible exact Pick.here | with_reducible apply Pick.there))) (.cons (.imp (.pick (A := mapA encSL _ _) (by repeat (first | with_reducible exact Pick.here | with_reducible apply Pick.there))) fun _ h => by rw [skAll_succ hp]; simpa [skStep, hlo, hgl] using h) .nil))))))))
      · refine G.exit ?_
        refine G.x_exit_then (G.x_exit_then ?_)
        refine G.x_exit_block (G.x_then ?_)
        refine G.unframe (by repeat (first | exact App.nil | apply App.cons)) ?_
        refine G.nil ?_
        have hk2 : k = f.ps.length := by omega
        have hG : goneN f.ps = k := goneN_stop hg hk fun q hq => by rw [hk2] at hq; simp at hq
        exact G.cutXEnd k (.cons (t := 0) rfl (.cons (t := 4) rfl (.cons (t := 6) rfl (.cons (t := 7) rfl (.cons (t := 8) rfl (.cons (t := 9) rfl .nil)))))) (.cons (.lift hG) (.cons (.pick (by repeat (first | with_reducible exact Pick.here | with_reducible apply Pick.there))) (.cons (.pick (by repeat (first | with_reducible exact Pick.here | with_reducible apply Pick.there))) (.cons (.pick (by repeat (first | with_reducible exact Pick.here | with_reducible apply Pick.there))) (.cons (.pick (by repeat (first | with_reducible exact Pick.here | with_reducible apply Pick.there))) (.cons (.pick (by repeat (first | with_reducible exact Pick.here | with_reducible apply Pick.there))) (.cons (.pick (by repeat (first | with_reducible exact Pick.here | with_reducible apply Pick.there))) (.cons (.pick (by repeat (first | with_reducible exact Pick.here | with_reducible apply Pick.there))) .nil))))))))
    refine G.lift fun hG => ?_
    refine G.seq ?_
    refine G.seq ?_
    refine G.region ?_
    refine G.yld (by decide) (Yld.move rfl) ?_
    refine G.yld (by decide) (Yld.notP rfl) ?_
    refine G.done ?_
    refine G.condP rfl (fun h0 => ?_) (fun h0 => ?_)
    · have hk0 : goneN f.ps = 0 := by omega
      refine G.seq ?_
      refine G.region ?_
      refine G.yld (by decide) (Yld.buildS (cs := [_, _, _, _, _, _, _, _, _, _, _, _, _, _, _, _, _, _, _]) Try_z36 Try_pl36 rfl rfl .nil rfl) ?_
      refine G.op0  (OpC.storeAgg (k := 19) Try.sizeOf36 rfl rfl rfl rfl (by repeat (first | with_reducible exact Pick.here | with_reducible apply Pick.there)) (setWhole rfl) (Nat.le_of_ble_eq_true rfl)) fun _ => ?_
      refine G.yld (by decide) (Yld.assign rfl) ?_
      refine G.done ?_
      refine G.ret ?_
      refine G.ret2 (.inr rfl) Try.results16 (.agg (cs := [_, _, _, _, _, _, _, _, _, _, _, _, _, _, _, _, _, _, _]) rfl Try.isAgg36 Try.sizeOf36 (by repeat (first | with_reducible exact Pick.here | with_reducible apply Pick.there)) rfl (aggAt rfl)) (.tmp rfl) ?_
      exact ⟨_, (by rw [show f.point false = none by simp [Fm.point, hk0]]; exact (.ex nilS (.star (.lift rfl) (.star (.imp .emp fun _ _ => sl_nil) (entF (.pick (by repeat (first | with_reducible exact Pick.here | with_reducible apply Pick.there))) (.pick (by repeat (first | with_reducible exact Pick.here | with_reducible apply Pick.there))) rfl (.pick (by repeat (first | with_reducible exact Pick.here | with_reducible apply Pick.there))) (.pick (by repeat (first | with_reducible exact Pick.here | with_reducible apply Pick.there))))))))⟩
    · have hk0 : goneN f.ps ≠ 0 := by omega
      refine G.skip ?_
      refine G.seq ?_
      refine G.region ?_
      refine G.yld (by decide) (Yld.move rfl) ?_
      refine G.yld (by decide) (Yld.nilCheck rfl) ?_
      refine G.yld (by decide) (Yld.fieldAddr Try_fo87_0 rfl) ?_
      refine G.yld (by decide) (Yld.load rfl Try.isAgg22 (by repeat (first | with_reducible exact Pick.here | with_reducible apply Pick.there)) rfl) ?_
      refine G.yld (by decide) (Yld.move rfl) ?_
      refine G.yld (by decide) (Yld.conv_i_u32 Try.runUnderlying3 Try.runUnderlying22 rfl) ?_
      refine G.yld (by decide) (Yld.add_u32 rfl rfl) ?_
      refine G.yld (by decide) (Yld.fieldAddr Try_fo36_5 rfl) ?_
      refine G.op0  (OpC.storeS (.succ (.succ (.succ (.succ (.succ .zero))))) Try.sizeOf22 rfl rfl rfl (by repeat (first | with_reducible exact Pick.here | with_reducible apply Pick.there))) fun _ => ?_
      refine G.done ?_
      refine G.seq ?_
      refine G.seq ?_
      refine G.region ?_
      refine G.yld (by decide) (Yld.move rfl) ?_
      refine G.opc (by decide) (OpC.range (enc := encSL) Try.runUnderlying99 rfl (by repeat (first | with_reducible exact Pick.here | with_reducible apply Pick.there))) fun bi => ?_
      refine G.done ?_
      refine G.block ?_
      have hskn := skAll_nodup false (f.ps.take k)
      have hskl := skAll_length false (f.ps.take k)
      have htl : (f.ps.take k).length ≤ f.ps.length := by simp; omega
      refine G.loopE (X := List Nat) (fun is => [(0, ptr b), (4, ptr b4), (6, ptr b6), (90, ptr bi)]) (fun is => [mapR encSL rs bi (mU vU32 (skAll false (f.ps.take k))) is, ex fun v => star (cel true b6 36 (ckv { kind := 192, tsn := f.mark + UInt32.ofNat ((k : Int) % 4294967296).toNat } nilS nilS v nilS nilS)) (sl true 3 v is.length (skc (is.map (skAt (skAll false (f.ps.take k)))))), cel true b4 36 [.int .u8 0, .bool false, .bool false, .bool false, .bool false, .int .u32 0, .int .u16 0, .int .u32 0, .int .u32 0, .int .u32 0, .int .u32 0, .int .u32 0, .int .u16 0, .int .u16 0, .slice none 0 0, .slice none 0 0, .slice none 0 0, .slice none 0 0, .slice none 0 0], cel true b 87 [vU32 f.mark, .slice a f.ps.length cap, .map (some r)], sl true 1 (.slice a f.ps.length cap) f.ps.length (ptc bs), isPs bs f.ps, mapA encI r (goneC f.gone)]) (fun is => (skAll false (f.ps.take k)).length - is.length) [] (.cons (t := 0) rfl (.cons (t := 4) rfl (.cons (t := 6) rfl (.cons (t := 90) rfl .nil)))) (.cons (.pick (by repeat (first | with_reducible exact Pick.here | with_reducible apply Pick.there))) (.cons (.ex nilS (.star (.pick (A := cel _ b6 _ _) (by repeat (first | with_reducible exact Pick.here | with_reducible apply Pick.there))) (.imp .emp fun _ _ => sl_nil))) (Ents.of_picks (.cons (by repeat (first | with_reducible exact Pick.here | with_reducible apply Pick.there)) (.cons (by repeat (first | with_reducible exact Pick.here | with_reducible apply Pick.there)) (.cons (by repeat (first | with_reducible exact Pick.here | with_reducible apply Pick.there)) (.cons (by repeat (first | with_reducible exact Pick.here | with_reducible apply Pick.there)) (.cons (by repeat (first | with_reducible exact Pick.here | with_reducible apply Pick.there)) .nil)))))))) fun is => ?_
      refine G.seq ?_
      refine G.region ?_
      refine G.opc (by decide) (OpC.next rfl (by repeat (first | with_reducible exact Pick.here | with_reducible apply Pick.there))) fun nx => ?_
      obtain _ | ⟨i, k1, v1⟩ := nx
      · refine G.lift fun hnx => ?_
        refine G.yld (by decide) (Yld.extract rfl rfl) ?_
        refine G.done ?_
        refine G.seq ?_
        refine G.condF rfl ?_
        refine G.exit ?_
        refine G.x_exit_then (G.x_exit_then ?_)
        refine G.x_exit_block (G.x_then ?_)
        refine G.unframe (by repeat (first | exact App.nil | apply App.cons)) ?_
        refine G.seq ?_
        refine G.pick (A := ex _) (by repeat (first | with_reducible exact Pick.here | with_reducible apply Pick.there)) (G.ex fun vs => G.star ?_)
        rw [mU_length] at hnx
        have hperm := skAt_perm hnx
        have hnd : ((is.map (skAt (skAll false (f.ps.take k)))).map fun s => (s.stream, s.loose)).Nodup := ((hperm.map _).nodup_iff).2 (sk_keys hskn)
        have hlen2 : is.length = (skAll false (f.ps.take k)).length := by simpa using hnx.length_eq
        refine G.conv (A := sl true 3 vs _ _) (by repeat (first | with_reducible exact Pick.here | with_reducible apply Pick.there)) (A' := sl true 3 vs (is.map (skAt (skAll false (f.ps.take k)))).length (skc (is.map (skAt (skAll false (f.ps.take k)))))) (fun _ h => by simpa using h) ?_
        refine G.fact (A := sl true _ vs _ _) (by repeat (first | with_reducible exact Pick.here | with_reducible apply Pick.there)) sl_cell fun hvs => ?_
        refine G.region ?_
        refine G.yld (by decide) (Yld.fieldAddr Try_fo36_16 rfl) ?_
        refine G.yld (by decide) (Yld.load rfl Try.isAgg33 (by repeat (first | with_reducible exact Pick.here | with_reducible apply Pick.there)) rfl) ?_
        refine G.opc (by decide) (OpC.call Try.call45 rfl (hss vs (is.map (skAt (skAll false (f.ps.take k)))) (by simp; omega) hnd) (.cons (A := sl true _ vs _ _) (by repeat (first | with_reducible exact Pick.here | with_reducible apply Pick.there)) .nil)) fun _ => ?_
        rw [sortSk_perm hperm hnd]
        refine G.done ?_
        refine G.seq ?_
        refine G.region ?_
        refine G.yld (by decide) (Yld.loadAgg (cs := [_, _, _, _, _, _, _, _, _, _, _, _, _, _, _, _, _, _, _]) rfl Try.isAgg36 Try.sizeOf36 (by repeat (first | with_reducible exact Pick.here | with_reducible apply Pick.there)) rfl (aggAt rfl)) ?_
        refine G.op0  (OpC.storeAgg (k := 19) Try.sizeOf36 rfl rfl rfl (by simp only [List.all_cons, List.all_nil, hvs]; rfl) (by repeat (first | with_reducible exact Pick.here | with_reducible apply Pick.there)) (setWhole rfl) (Nat.le_of_ble_eq_true rfl)) fun _ => ?_
        refine G.yld (by decide) (Yld.assign rfl) ?_
        refine G.done ?_
        refine G.ret ?_
        refine G.ret2 (.inr rfl) Try.results16 (.agg (cs := [_, _, _, _, _, _, _, _, _, _, _, _, _, _, _, _, _, _, _]) rfl Try.isAgg36 Try.sizeOf36 (by repeat (first | with_reducible exact Pick.here | with_reducible apply Pick.there)) rfl (aggAt rfl)) (.tmp rfl) ?_
        exact ⟨_, (by rw [show f.point false = some ({ kind := 192, tsn := f.mark + UInt32.ofNat ((k : Int) % 4294967296).toNat }, sortSk ((skAll false (f.ps.take k)).map skOf)) by simp [Fm.point, hG]; omega]; exact (.ex vs (.star (.lift rfl) (.star (.imp (.pick (A := sl true 3 vs _ _) (by repeat (first | with_reducible exact Pick.here | with_reducible apply Pick.there))) fun _ h => by simpa [ptO, sortSk, hlen2] using h) (entF (.pick (A := cel _ b _ _) (by repeat (first | with_reducible exact Pick.here | with_reducible apply Pick.there))) (.pick (by repeat (first | with_reducible exact Pick.here | with_reducible apply Pick.there))) rfl (.pick (by repeat (first | with_reducible exact Pick.here | with_reducible apply Pick.there))) (.pick (by repeat (first | with_reducible exact Pick.here | with_reducible apply Pick.there))))))))⟩
      · refine G.lift fun hnx => ?_
        refine G.yld (by decide) (Yld.extract rfl rfl) ?_
        refine G.done ?_
        refine G.seq ?_
        refine G.condT rfl ?_
        obtain ⟨hy, hni⟩ := hnx
        dsimp only at hy hni ⊢
        obtain ⟨e, he, he1, he2⟩ := mU_get hy
        subst he1; subst he2
        refine G.fact (A := mapR _ _ _ _ _) (by repeat (first | with_reducible exact Pick.here | with_reducible apply Pick.there)) mapR_len fun hil => ?_
        rw [mU_length] at hil
        have hil2 : is.length + 1 ≤ (skAll false (f.ps.take k)).length := by simpa using hil
        refine G.skip ?_
        refine G.block ?_
        refine G.seq ?_
        refine G.region ?_
        refine G.yld (by decide) (Yld.entry rfl (by repeat (first | with_reducible exact Pick.here | with_reducible apply Pick.there)) hy) ?_
        refine G.yld (by decide) (Yld.extract rfl rfl) ?_
        refine G.yld (by decide) (Yld.extract rfl rfl) ?_
        refine G.opc (by decide) (OpC.alloc (cs := [.int .u16 0, .bool false]) Try.zeroValue101 rfl) fun b15 => ?_
        refine G.op0  (OpC.storeAgg (k := 2) Try.sizeOf101 rfl rfl rfl rfl (by repeat (first | with_reducible exact Pick.here | with_reducible apply Pick.there)) (setWhole rfl) (Nat.le_of_ble_eq_true rfl)) fun _ => ?_
        refine G.yld (by decide) (Yld.assign rfl) ?_
        refine G.done ?_
        refine G.pick (A := ex _) (by repeat (first | with_reducible exact Pick.here | with_reducible apply Pick.there)) (G.ex fun vs => G.star ?_)
        refine G.region ?_
        refine G.yld (by decide) (Yld.fieldAddr Try_fo36_16 rfl) ?_
        refine G.yld (by decide) (Yld.load rfl Try.isAgg33 (by repeat (first | with_reducible exact Pick.here | with_reducible apply Pick.there)) rfl) ?_
        refine G.yld (by decide) (Yld.fieldAddr Try_fo101_0 rfl) ?_
        refine G.yld (by decide) (Yld.load rfl Try.isAgg30 (by repeat (first | with_reducible exact Pick.here | with_reducible apply Pick.there)) rfl) ?_
        refine G.yld (by decide) (Yld.fieldAddr Try_fo101_1 rfl) ?_
        refine G.yld (by decide) (Yld.load rfl Try.isAgg4 (by repeat (first | with_reducible exact Pick.here | with_reducible apply Pick.there)) rfl) ?_
        refine G.yld (by decide) (Yld.move rfl) ?_
        refine G.yld (by decide) (Yld.buildS (cs := [_, _, _]) Try_z52 Try_pl52 rfl rfl (.cons rfl rfl (Nat.le_of_ble_eq_true rfl) (.cons rfl rfl (Nat.le_of_ble_eq_true rfl) (.cons rfl rfl (Nat.le_of_ble_eq_true rfl) .nil))) rfl) ?_
        refine G.opc (by decide) (OpC.buildOne (cs := (skv (skOf e))) Try.runUnderlying33 Try.sizeOf52 Try.zeroValue52 rfl rfl rfl rfl (by decide)) fun bn => ?_
        refine G.fold (.imp (.pick (A := cel _ bn _ _) (by repeat (first | with_reducible exact Pick.here | with_reducible apply Pick.there))) (sl_row (k := 3) (n := 1) rfl)) ?_
        refine G.opc (by decide) (OpC.appendE (kk := 3) (bytes := 8) Try.underlying33 Try.type52 rfl rfl rfl rfl rfl Try.underlying33 rfl rfl (by repeat (first | with_reducible exact Pick.here | with_reducible apply Pick.there)) (by repeat (first | with_reducible exact Pick.here | with_reducible apply Pick.there)) rfl (room_of _ _ (by decide) (by omega)) rfl (skc_snoc _ (skOf e))) fun va => ?_
        refine G.fact (A := sl true _ va _ _) (by repeat (first | with_reducible exact Pick.here | with_reducible apply Pick.there)) sl_cell fun hva => ?_
        refine G.yld (by decide) (Yld.fieldAddr Try_fo36_16 rfl) ?_
        refine G.op0  (OpC.storeS (.succ (.succ (.succ (.succ (.succ (.succ (.succ (.succ (.succ (.succ (.succ (.succ (.succ (.succ (.succ (.succ .zero)))))))))))))))) Try.sizeOf33 rfl rfl hva (by repeat (first | with_reducible exact Pick.here | with_reducible apply Pick.there))) fun _ => ?_
        refine G.done ?_
        refine G.nil ?_
        refine G.x_block (G.x_then ?_)
        refine G.nil ?_
        refine G.x_then ?_
        exact G.againE (is ++ [i]) (by simp; omega) (.cons (t := 0) rfl (.cons (t := 4) rfl (.cons (t := 6) rfl (.cons (t := 90) rfl .nil)))) (.cons (.pick (by repeat (first | with_reducible exact Pick.here | with_reducible apply Pick.there))) (.cons (.ex va (.star (.pick (A := cel _ b6 _ _) (by repeat (first | with_reducible exact Pick.here | with_reducible apply Pick.there))) (.imp (.pick (A := sl true 3 va _ _) (by repeat (first | with_reducible exact Pick.here | with_reducible apply Pick.there))) fun _ h => by simpa [skAt, he] using h))) (Ents.of_picks (.cons (by repeat (first | with_reducible exact Pick.here | with_reducible apply Pick.there)) (.cons (by repeat (first | with_reducible exact Pick.here | with_reducible apply Pick.there)) (.cons (by repeat (first | with_reducible exact Pick.here | with_reducible apply Pick.there)) (.cons (by repeat (first | with_reducible exact Pick.here | with_reducible apply Pick.there)) (.cons (by repeat (first | with_reducible exact Pick.here | with_reducible apply Pick.there)) .nil))))))))
  · refine G.seq ?_
    refine G.region ?_
    refine G.opc (by decide) (OpC.alloc (cs := [.int .u8 0, .bool false, .bool false, .bool false, .bool false, .int .u32 0, .int .u16 0, .int .u32 0, .int .u32 0, .int .u32 0, .int .u32 0, .int .u32 0, .int .u16 0, .int .u16 0, .slice none 0 0, .slice none 0 0, .slice none 0 0, .slice none 0 0, .slice none 0 0]) Try.zeroValue36 rfl) fun b4 => ?_
    refine G.yld (by decide) (Yld.assign rfl) ?_
    refine G.done ?_
    refine G.seq ?_
    refine G.region ?_
    refine G.yld (by decide) (Yld.buildS (cs := [_, _, _, _, _, _, _, _, _, _, _, _, _, _, _, _, _, _, _]) Try_z36 Try_pl36 rfl rfl (.cons rfl rfl (Nat.le_of_ble_eq_true rfl) .nil) rfl) ?_
    refine G.opc (by decide) (OpC.alloc (cs := [.int .u8 0, .bool false, .bool false, .bool false, .bool false, .int .u32 0, .int .u16 0, .int .u32 0, .int .u32 0, .int .u32 0, .int .u32 0, .int .u32 0, .int .u16 0, .int .u16 0, .slice none 0 0, .slice none 0 0, .slice none 0 0, .slice none 0 0, .slice none 0 0]) Try.zeroValue36 rfl) fun b6 => ?_
    refine G.op0  (OpC.storeAgg (k := 19) Try.sizeOf36 rfl rfl rfl rfl (by repeat (first | with_reducible exact Pick.here | with_reducible apply Pick.there)) (setWhole rfl) (Nat.le_of_ble_eq_true rfl)) fun _ => ?_
    refine G.done ?_
    refine G.seq ?_
    refine G.seq ?_
    refine G.region ?_
    refine G.yld (by decide) (Yld.move rfl) ?_
    refine G.done ?_
    refine G.condT rfl ?_
    refine G.region ?_
    refine G.yld (by decide) (Yld.fieldAddr Try_fo36_0 rfl) ?_
    refine G.op0  (OpC.storeS .zero Try.sizeOf29 rfl rfl rfl (by repeat (first | with_reducible exact Pick.here | with_reducible apply Pick.there))) fun _ => ?_
    refine G.done ?_
    refine G.seq ?_
    refine G.region ?_
    refine G.yld (by decide) (Yld.assign rfl) ?_
    refine G.done ?_
    refine G.seq ?_
    refine G.region ?_
    refine G.opc (by decide) (OpC.makeMap) fun rs => ?_
    refine G.conv (A := pt true rs _) (by repeat (first | with_reducible exact Pick.here | with_reducible apply Pick.there)) (A' := mapA encSL rs (mU vU32 (skAll true (f.ps.take 0)))) (fun _ h => mapA_new h) ?_
    refine G.conv (A := cel true b6 36 [.int .u8 194, .bool false, .bool false, .bool false, .bool false, .int .u32 0, .int .u16 0, .int .u32 0, .int .u32 0, .int .u32 0, .int .u32 0, .int .u32 0, .int .u16 0, .int .u16 0, .slice none 0 0, .slice none 0 0, .slice none 0 0, .slice none 0 0, .slice none 0 0]) (by repeat (first | with_reducible exact Pick.here | with_reducible apply Pick.there)) (A' := cel true b6 36 (ckv { kind := 194 } nilS nilS nilS nilS nilS)) (fun _ h => h) ?_
    refine G.yld (by decide) (Yld.assign rfl) ?_
    refine G.done ?_
    refine G.seq ?_
    refine G.region ?_
    refine G.yld (by decide) (Yld.assign rfl) ?_
    refine G.done ?_
    refine G.seq ?_
    refine G.seq ?_
    refine G.pick (A := isF b f) (by repeat (first | with_reducible exact Pick.here | with_reducible apply Pick.there)) ?_
    refine G.openF fun v bs r hlen => ?_
    refine G.pick (A := sl true 1 v _ _) (by repeat (first | with_reducible exact Pick.here | with_reducible apply Pick.there)) (G.slv fun a cap hv hle hl => ?_)
    obtain rfl := hv
    refine G.region ?_
    refine G.yld (by decide) (Yld.move rfl) ?_
    refine G.yld (by decide) (Yld.nilCheck rfl) ?_
    refine G.yld (by decide) (Yld.fieldAddr Try_fo87_1 rfl) ?_
    refine G.yld (by decide) (Yld.load rfl Try.isAgg85 (by repeat (first | with_reducible exact Pick.here | with_reducible apply Pick.there)) rfl) ?_
    refine G.yld (by decide) (Yld.len_slice Try.runUnderlying85 rfl) ?_
    refine G.yld (by decide) (Yld.move rfl) ?_
    refine G.done ?_
    refine G.cutX (X := Nat) (fun k => [(0, ptr b), (4, ptr b4), (6, ptr b6), (7, .bool (decide (0 < k))), (8, .map (some rs)), (9, vI k)]) (fun k => [lift (goneN f.ps = k), cel true b4 36 [.int .u8 0, .bool false, .bool false, .bool false, .bool false, .int .u32 0, .int .u16 0, .int .u32 0, .int .u32 0, .int .u32 0, .int .u32 0, .int .u32 0, .int .u16 0, .int .u16 0, .slice none 0 0, .slice none 0 0, .slice none 0 0, .slice none 0 0, .slice none 0 0], cel true b6 36 (ckv { kind := 194 } nilS nilS nilS nilS nilS), cel true b 87 [vU32 f.mark, .slice a f.ps.length cap, .map (some r)], sl true 1 (.slice a f.ps.length cap) f.ps.length (ptc bs), isPs bs f.ps, mapA encI r (goneC f.gone), mapA encSL rs (mU vU32 (skAll true (f.ps.take k)))]) ?_ (fun k => ?_)
    · refine G.block ?_
      refine G.loopE (X := Nat) (fun k => [(0, ptr b), (1, .bool true), (4, ptr b4), (6, ptr b6), (7, .bool (decide (0 < k))), (8, .map (some rs)), (9, vI k), (24, .slice a f.ps.length cap), (25, vI f.ps.length), (26, vI k)]) (fun k => [lift (k ≤ f.ps.length ∧ ∀ q ∈ f.ps.take k, q.how = 3), cel true b4 36 [.int .u8 0, .bool false, .bool false, .bool false, .bool false, .int .u32 0, .int .u16 0, .int .u32 0, .int .u32 0, .int .u32 0, .int .u32 0, .int .u32 0, .int .u16 0, .int .u16 0, .slice none 0 0, .slice none 0 0, .slice none 0 0, .slice none 0 0, .slice none 0 0], cel true b6 36 (ckv { kind := 194 } nilS nilS nilS nilS nilS), cel true b 87 [vU32 f.mark, .slice a f.ps.length cap, .map (some r)], sl true 1 (.slice a f.ps.length cap) f.ps.length (ptc bs), isPs bs f.ps, mapA encI r (goneC f.gone), mapA encSL rs (mU vU32 (skAll true (f.ps.take k)))]) (fun k => f.ps.length - k) 0 (.cons (t := 0) rfl (.cons (t := 1) rfl (.cons (t := 4) rfl (.cons (t := 6) rfl (.cons (t := 7) rfl (.cons (t := 8) rfl (.cons (t := 9) rfl (.cons (t := 24) rfl (.cons (t := 25) rfl (.cons (t := 26) rfl .nil)))))))))) (.cons (.lift ⟨Nat.zero_le _, by simp⟩) (Ents.of_picks (.cons (by repeat (first | with_reducible exact Pick.here | with_reducible apply Pick.there)) (.cons (by repeat (first | with_reducible exact Pick.here | with_reducible apply Pick.there)) (.cons (by repeat (first | with_reducible exact Pick.here | with_reducible apply Pick.there)) (.cons (by repeat (first | with_reducible exact Pick.here | with_reducible apply Pick.there)) (.cons (by repeat (first | with_reducible exact Pick.here | with_reducible apply Pick.there)) (.cons (by repeat (first | with_reducible exact Pick.here | with_reducible apply Pick.there)) (.cons (by repeat (first | with_reducible exact Pick.here | with_reducible apply Pick.there)) .nil))))))))) fun k => ?_
      refine G.lift fun hI => ?_
      obtain ⟨hk, hg⟩ := hI
      refine G.seq ?_
      refine G.region ?_
      refine G.yld (by decide) (Yld.lss_i rfl rfl) ?_
      refine G.done ?_
      refine G.seq ?_
      refine G.condP rfl (fun hlt => ?_) (fun hlt => ?_)
      · obtain ⟨bk, hbk⟩ : ∃ b, bs[k]? = some b := ⟨bs[k]'(by omega), by simp⟩
        obtain ⟨p, hp⟩ : ∃ p, f.ps[k]? = some p := ⟨f.ps[k]'(by omega), by simp⟩
        refine G.pick (A := sl _ _ _ _ _) (by repeat (first | with_reducible exact Pick.here | with_reducible apply Pick.there)) (G.slice (fun a0 hv hn hc => by omega) (fun bb T off cap2 pre post hv hpre hcs hpost hle2 => ?_))
        cases hv
        refine G.skip ?_
        refine G.seq ?_
        refine G.block ?_
        refine G.seq ?_
        refine G.region ?_
        refine G.yld (by decide) (Yld.indexAddr Try.runUnderlying85 Try.sizeOf89 rfl rfl (by omega) (by omega)) ?_
        refine G.yld (by decide) (Yld.load rfl Try.isAgg89 (by repeat (first | with_reducible exact Pick.here | with_reducible apply Pick.there)) (ptc_at hpre hbk)) ?_
        refine G.yld (by decide) (Yld.assign rfl) ?_
        refine G.done ?_
        refine G.seq ?_
        refine G.seq ?_
        refine G.conv (A := isPs bs _) (by repeat (first | with_reducible exact Pick.here | with_reducible apply Pick.there)) (isPs_split hbk hp) ?_
        refine G.star3 ?_
        refine G.ex fun bv => G.star ?_
        refine G.region ?_
        refine G.yld (by decide) (Yld.move rfl) ?_
        refine G.yld (by decide) (Yld.nilCheck rfl) ?_
        refine G.yld (by decide) (Yld.fieldAddr Try_fo93_6 rfl) ?_
        refine G.yld (by decide) (Yld.load rfl Try.isAgg91 (by repeat (first | with_reducible exact Pick.here | with_reducible apply Pick.there)) rfl) ?_
        refine G.yld (by decide) (Yld.neq_i (b := (3 : Int)) rfl rfl) ?_
        refine G.done ?_
        refine G.condP rfl (fun hhow => ?_) (fun hhow => ?_)
        · refine G.exit ?_
          refine G.x_exit_block_ne rfl (G.x_exit_then ?_)
          refine G.x_exit_then (G.x_exit_then ?_)
          refine G.x_exit_block (G.x_then ?_)
          refine G.unframe (by repeat (first | exact App.nil | apply App.cons)) ?_
          refine G.nil ?_
          have hG : goneN f.ps = k := goneN_stop hg hk fun q hq => by rw [hp] at hq; cases hq; exact hhow
          exact G.cutXEnd k (.cons (t := 0) rfl (.cons (t := 4) rfl (.cons (t := 6) rfl (.cons (t := 7) rfl (.cons (t := 8) rfl (.cons (t := 9) rfl .nil)))))) (.cons (.lift hG) (.cons (.pick (by repeat (first | with_reducible exact Pick.here | with_reducible apply Pick.there))) (.cons (.pick (by repeat (first | with_reducible exact Pick.here | with_reducible apply Pick.there))) (.cons (.pick (by repeat (first | with_reducible exact Pick.here | with_reducible apply Pick.there))) (.cons (.imp (.pick (A := cel _ bb _ _) (by repeat (first | with_reducible exact Pick.here | with_reducible apply Pick.there))) fun _ h => .inr ⟨bb, T, off, _, pre, post, rfl, hpre, hcs, hpost, hle2, h⟩) (.cons (entPs hbk (p' := p) (entP (.pick (A := sl false _ bv _ _) (by repeat (first | with_reducible exact Pick.here | with_reducible apply Pick.there))) (.pick (A := cel _ bk _ _) (by repeat (first | with_reducible exact Pick.here | with_reducible apply Pick.there))) rfl) (.pick (A := isPs (bs.take k) _) (by repeat (first | with_reducible exact Pick.here | with_reducible apply Pick.there))) (.pick (A := isPs (bs.drop (k + 1)) _) (by repeat (first | with_reducible exact Pick.here | with_reducible apply Pick.there))) (set_same hp) (by omega)) (.cons (.pick (by repeat (first | with_reducible exact Pick.here | with_reducible apply Pick.there))) (.cons (.pick (by repeat (first | with_reducible exact Pick.here | with_reducible apply Pick.there))) .nil))))))))
        · have hhow3 : p.how = 3 := by omega
          have hg2 : ∀ q ∈ f.ps.take (k + 1), q.how = 3 := fun q hq => by rw [List.take_add_one, hp] at hq; rcases List.mem_append.1 hq with h | h; exact hg q h; simp at h; exact h ▸ hhow3
          refine G.skip ?_
          refine G.seq ?_
          refine G.region ?_
          refine G.yld (by decide) (Yld.move rfl) ?_
          refine G.yld (by decide) (Yld.add_i (b := (1 : Int)) rfl rfl (by omega)) ?_
          refine G.yld (by decide) (Yld.assign rfl) ?_
          refine G.done ?_
          refine G.seq ?_
          refine G.region ?_
          refine G.yld (by decide) (Yld.assign rfl) ?_
          refine G.done ?_
          refine G.seq ?_
          refine G.draw Try_mixed (.still 0 (.still 1 (.still 2 (.still 3 (.still 4 (.still 5 (.still 6 (.still 7 (.still 8 (.still 9 (.still 10 (.loud 11 true (.loud 12 false (.done)))))))))))))) (by kernel_rfl) (.cons (A := cel _ bk _ _) (by repeat (first | with_reducible exact Pick.here | with_reducible apply Pick.there)) .nil) ?_
          refine GO.yld (i := 0) rfl (by decide) (Yld.move rfl) ?_
          refine GO.yld (i := 1) rfl (by decide) (Yld.nilCheck rfl) ?_
          refine GO.yld (i := 2) rfl (by decide) (Yld.fieldAddr Try_fo93_0 rfl) ?_
          refine GO.yld (i := 3) rfl (by decide) (Yld.fieldAddr Try_fo36_6 rfl) ?_
          refine GO.yld (i := 4) rfl (by decide) (Yld.load rfl Try.isAgg30 (by repeat (first | with_reducible exact Pick.here | with_reducible apply Pick.there)) rfl) ?_
          refine GO.yld (i := 5) rfl (by decide) (Yld.move rfl) ?_
          refine GO.yld (i := 6) rfl (by decide) (Yld.nilCheck rfl) ?_
          refine GO.yld (i := 7) rfl (by decide) (Yld.fieldAddr Try_fo93_0 rfl) ?_
          refine GO.yld (i := 8) rfl (by decide) (Yld.fieldAddr Try_fo36_3 rfl) ?_
          refine GO.yld (i := 9) rfl (by decide) (Yld.load rfl Try.isAgg4 (by repeat (first | with_reducible exact Pick.here | with_reducible apply Pick.there)) rfl) ?_
          refine GO.yld (i := 10) rfl (by decide) (Yld.buildS (cs := [_, _]) Try_z101 Try_pl101 rfl rfl (.cons rfl rfl (Nat.le_of_ble_eq_true rfl) (.cons rfl rfl (Nat.le_of_ble_eq_true rfl) .nil)) rfl) ?_
          refine GO.opc (i := 11) rfl (by decide) (OpC.alloc (cs := [.int .u16 0, .bool false]) Try.zeroValue101 rfl) (fun _ => (.cons (A := cel _ bk _ _) (by repeat (first | with_reducible exact Pick.here | with_reducible apply Pick.there)) .nil)) fun b12 => ?_
          refine GO.x ?_
          refine GX.op0 (i := 12) rfl  (OpC.storeAgg (k := 2) Try.sizeOf101 rfl rfl rfl rfl (by repeat (first | with_reducible exact Pick.here | with_reducible apply Pick.there)) (setWhole rfl) (Nat.le_of_ble_eq_true rfl)) fun _ => ?_
          refine GX.done ?_
          refine G.seq ?_
          refine G.seq ?_
          refine G.region ?_
          refine G.yld (by decide) (Yld.fieldAddr Try_fo101_1 rfl) ?_
          refine G.yld (by decide) (Yld.load rfl Try.isAgg4 (by repeat (first | with_reducible exact Pick.here | with_reducible apply Pick.there)) rfl) ?_
          refine G.yld (by decide) (Yld.move rfl) ?_
          refine G.splitX (t := 50) rfl (fun hlo => ?_) (fun hlo => ?_)
          · refine G.yldG (by decide) rfl rfl (Yld.move rfl) ?_
            refine G.yldG (by decide) rfl rfl (Yld.not rfl) ?_
            refine G.yld (by decide) (Yld.pickT rfl rfl) ?_
            refine G.done ?_
            refine G.condF rfl ?_
            have hal := alook_mU (e := vU32) (skAll true (f.ps.take k)) (skKey p)
            rcases hgl : glook (skAll true (f.ps.take k)) (skKey p) with _ | mid
            · rw [hgl] at hal
              refine G.skip ?_
              refine G.seq ?_
              refine G.region ?_
              refine G.yld (by decide) (Yld.move rfl) ?_
              refine G.yld (by decide) (Yld.loadAgg (cs := [_, _]) rfl Try.isAgg101 Try.sizeOf101 (by repeat (first | with_reducible exact Pick.here | with_reducible apply Pick.there)) rfl (aggAt rfl)) ?_
              refine G.yld (by decide) (Yld.lookupN (k := skKey p) key101 Try.runUnderlying99 Try.zeroValue22 rfl rfl (by repeat (first | with_reducible exact Pick.here | with_reducible apply Pick.there)) hal) ?_
              refine G.yld (by decide) (Yld.move rfl) ?_
              refine G.yld (by decide) (Yld.extract rfl rfl) ?_
              refine G.yld (by decide) (Yld.extract rfl rfl) ?_
              refine G.yld (by decide) (Yld.assign rfl) ?_
              refine G.yld (by decide) (Yld.assign rfl) ?_
              refine G.done ?_
              refine G.seq ?_
              refine G.region ?_
              refine G.yld (by decide) (Yld.move rfl) ?_
              refine G.done ?_
              refine G.condF rfl ?_
              refine G.draw Try_mixed (.still 0 (.still 1 (.still 2 (.still 3 (.still 4 (.still 5 (.still 6 (.loud 7 false (.done))))))))) (by kernel_rfl) (.cons (A := cel _ bk _ _) (by repeat (first | with_reducible exact Pick.here | with_reducible apply Pick.there)) (.cons (A := cel _ b12 _ _) (by repeat (first | with_reducible exact Pick.here | with_reducible apply Pick.there)) .nil)) ?_
              refine GO.yld (i := 0) rfl (by decide) (Yld.move rfl) ?_
              refine GO.yld (i := 1) rfl (by decide) (Yld.loadAgg (cs := [_, _]) rfl Try.isAgg101 Try.sizeOf101 (by repeat (first | with_reducible exact Pick.here | with_reducible apply Pick.there)) rfl (aggAt rfl)) ?_
              refine GO.yld (i := 2) rfl (by decide) (Yld.move rfl) ?_
              refine GO.yld (i := 3) rfl (by decide) (Yld.nilCheck rfl) ?_
              refine GO.yld (i := 4) rfl (by decide) (Yld.fieldAddr Try_fo93_0 rfl) ?_
              refine GO.yld (i := 5) rfl (by decide) (Yld.fieldAddr Try_fo36_7 rfl) ?_
              refine GO.yld (i := 6) rfl (by decide) (Yld.load rfl Try.isAgg22 (by repeat (first | with_reducible exact Pick.here | with_reducible apply Pick.there)) rfl) ?_
              refine GO.x ?_
              refine GX.op0 (i := 7) rfl  (OpC.mapUpdate (enc := encSL) (k := skKey p) key101 Try.runUnderlying99 rfl rfl rfl (by repeat (first | with_reducible exact Pick.here | with_reducible apply Pick.there))) fun _ => ?_
              rw [aset_mU]
              refine GX.done ?_
              refine G.nil ?_
              refine G.x_block (G.x_then ?_)
              refine G.region ?_
              refine G.yld (by decide) (Yld.add_i (b := (1 : Int)) rfl rfl (by omega)) ?_
              refine G.yld (by decide) (Yld.move rfl) ?_
              refine G.done ?_
              refine G.nil ?_
              refine G.x_then ?_
              exact G.againE (k + 1) (by omega) (.cons (t := 0) rfl (.cons (t := 1) rfl (.cons (t := 4) rfl (.cons (t := 6) rfl (.as (t := 7) rfl (congrArg Value.bool (by simp)) (.cons (t := 8) rfl (.cons (t := 9) rfl (.cons (t := 24) rfl (.cons (t := 25) rfl (.cons (t := 26) rfl .nil)))))))))) (.cons (.lift ⟨by omega, hg2⟩) (.cons (.pick (by repeat (first | with_reducible exact Pick.here | with_reducible apply Pick.there))) (.cons (.pick (by repeat (first | with_reducible exact Pick.here | with_reducible apply Pick.there))) (.cons (.pick (by repeat (first | with_reducible exact Pick.here | with_reducible apply Pick.there))) (.cons (.imp (.pick (A := cel _ bb _ _) (by repeat (first | with_reducible exact Pick.here | with_reducible apply Pick.there))) fun _ h => .inr ⟨bb, T, off, _, pre, post, rfl, hpre, hcs, hpost, hle2, h⟩) (.cons (entPs hbk (p' := p) (entP (.pick (A := sl false _ bv _ _) (by repeat (first | with_reducible exact Pick.here | with_reducible apply Pick.there))) (.pick (A := cel _ bk _ _) (by repeat (first | with_reducible exact Pick.here | with_reducible apply Pick.there))) rfl) (.pick (A := isPs (bs.take k) _) (by repeat (first | with_reducible exact Pick.here | with_reducible apply Pick.there))) (.pick (A := isPs (bs.drop (k + 1)) _) (by repeat (first | with_reducible exact Pick.here | with_reducible apply Pick.there))) (set_same hp) (by omega)) (.cons (.pick (by repeat (first | with_reducible exact Pick.here | with_reducible apply Pick.there))) (.cons (.imp (.pick (A := mapA encSL _ _) (by repeat (first | with_reducible exact Pick.here | with_reducible apply Pick.there))) fun _ h => by rw [skAll_succ hp]; simpa [skStep, hlo, hgl] using h) .nil))))))))
            · rw [hgl] at hal
              refine G.skip ?_
              refine G.seq ?_
              refine G.region ?_
              refine G.yld (by decide) (Yld.move rfl) ?_
              refine G.yld (by decide) (Yld.loadAgg (cs := [_, _]) rfl Try.isAgg101 Try.sizeOf101 (by repeat (first | with_reducible exact Pick.here | with_reducible apply Pick.there)) rfl (aggAt rfl)) ?_
              refine G.yld (by decide) (Yld.lookupS (k := skKey p) key101 Try.runUnderlying99 Try.zeroValue22 rfl rfl (by repeat (first | with_reducible exact Pick.here | with_reducible apply Pick.there)) hal) ?_
              refine G.yld (by decide) (Yld.move rfl) ?_
              refine G.yld (by decide) (Yld.extract rfl rfl) ?_
              refine G.yld (by decide) (Yld.extract rfl rfl) ?_
              refine G.yld (by decide) (Yld.assign rfl) ?_
              refine G.yld (by decide) (Yld.assign rfl) ?_
              refine G.done ?_
              refine G.seq ?_
              refine G.region ?_
              refine G.yld (by decide) (Yld.move rfl) ?_
              refine G.done ?_
              refine G.condT rfl ?_
              refine G.draw Try_mixed (.still 0 (.still 1 (.still 2 (.still 3 (.still 4 (.still 5 (.still 6 (.still 7 (.loud 8 true (.loud 9 false (.done))))))))))) (by kernel_rfl) (.cons (A := cel _ bk _ _) (by repeat (first | with_reducible exact Pick.here | with_reducible apply Pick.there)) (.cons (A := cel _ b12 _ _) (by repeat (first | with_reducible exact Pick.here | with_reducible apply Pick.there)) .nil)) ?_
              refine GO.yld (i := 0) rfl (by decide) (Yld.move rfl) ?_
              refine GO.yld (i := 1) rfl (by decide) (Yld.loadAgg (cs := [_, _]) rfl Try.isAgg101 Try.sizeOf101 (by repeat (first | with_reducible exact Pick.here | with_reducible apply Pick.there)) rfl (aggAt rfl)) ?_
              refine GO.yld (i := 2) rfl (by decide) (Yld.move rfl) ?_
              refine GO.yld (i := 3) rfl (by decide) (Yld.move rfl) ?_
              refine GO.yld (i := 4) rfl (by decide) (Yld.nilCheck rfl) ?_
              refine GO.yld (i := 5) rfl (by decide) (Yld.fieldAddr Try_fo93_0 rfl) ?_
              refine GO.yld (i := 6) rfl (by decide) (Yld.fieldAddr Try_fo36_7 rfl) ?_
              refine GO.yld (i := 7) rfl (by decide) (Yld.load rfl Try.isAgg22 (by repeat (first | with_reducible exact Pick.here | with_reducible apply Pick.there)) rfl) ?_
              refine GO.opc (i := 8) rfl (by decide) (OpC.call Try.call44 rfl (later_spec _ _) .nil) (fun _ => (.cons (A := cel _ bk _ _) (by repeat (first | with_reducible exact Pick.here | with_reducible apply Pick.there)) (.cons (A := cel _ b12 _ _) (by repeat (first | with_reducible exact Pick.here | with_reducible apply Pick.there)) .nil))) fun v => ?_
              refine GO.lift ?_
              rintro rfl
              refine GO.x ?_
              refine GX.op0 (i := 9) rfl  (OpC.mapUpdate (enc := encSL) (k := skKey p) key101 Try.runUnderlying99 rfl rfl rfl (by repeat (first | with_reducible exact Pick.here | with_reducible apply Pick.there))) fun _ => ?_
              rw [aset_mU]
              refine GX.done ?_
              refine G.nil ?_
              refine G.x_block (G.x_then ?_)
              refine G.region ?_
              refine G.yld (by decide) (Yld.add_i (b := (1 : Int)) rfl rfl (by omega)) ?_
              refine G.yld (by decide) (Yld.move rfl) ?_
              refine G.done ?_
              refine G.nil ?_
              refine G.x_then ?_
              exact G.againE (k + 1) (by omega) (.cons (t := 0) rfl (.cons (t := 1) rfl (.cons (t := 4) rfl (.cons (t := 6) rfl (.as (t := 7) rfl (congrArg Value.bool (by simp)) (.cons (t := 8) rfl (.cons (t := 9) rfl (.cons (t := 24) rfl (.cons (t := 25) rfl (.cons (t := 26) rfl .nil)))))))))) (.cons (.lift ⟨by omega, hg2⟩) (.cons (.pick (by repeat (first | with_reducible exact Pick.here | with_reducible apply Pick.there))) (.cons (.pick (by repeat (first | with_reducible exact Pick.here | with_reducible apply Pick.there))) (.cons (.pick (by repeat (first | with_reducible exact Pick.here | with_reducible apply Pick.there))) (.cons (.imp (.pick (A := cel _ bb _ _) (by repeat (first | with_reducible exact Pick.here | with_reducible apply Pick.there))) fun _ h => .inr ⟨bb, T, off, _, pre, post, rfl, hpre, hcs, hpost, hle2, h⟩) (.cons (entPs hbk (p' := p) (entP (.pick (A := sl false _ bv _ _) (by repeat (first | with_reducible exact Pick.here | with_reducible apply Pick.there))) (.pick (A := cel _ bk _ _) (by repeat (first | with_reducible exact Pick.here | with_reducible apply Pick.there))) rfl) (.pick (A := isPs (bs.take k) _) (by repeat (first | with_reducible exact Pick.here | with_reducible apply Pick.there))) (.pick (A := isPs (bs.drop (k + 1)) _) (by repeat (first | with_reducible exact Pick.here | with_reducible apply Pick.there))) (set_same hp) (by omega)) (.cons (.pick (by repeat (first | with_reducible exact Pick.here | with_reducible apply Pick.there))) (.cons (.imp (.pick (A := mapA encSL _ _) (by repeat (first | with_reducible exact Pick.here | with_reducible apply Pick.there))) fun _ h => by rw [skAll_succ hp]; simpa [skStep, hlo, hgl] using h) .nil))))))))
          · refine G.skipG (by decide) rfl rfl rfl ?_
            refine G.skipG (by decide) rfl rfl rfl ?_
            refine G.yld (by decide) (Yld.pickF rfl rfl) ?_
            refine G.done ?_
            refine G.condF rfl ?_
            have hal := alook_mU (e := vU32) (skAll true (f.ps.take k)) (skKey p)
            rcases hgl : glook (skAll true (f.ps.take k)) (skKey p) with _ | mid
            · rw [hgl] at hal
              refine G.skip ?_
              refine G.seq ?_
              refine G.region ?_
              refine G.yld (by decide) (Yld.move rfl) ?_
              refine G.yld (by decide) (Yld.loadAgg (cs := [_, _]) rfl Try.isAgg101 Try.sizeOf101 (by repeat (first | with_reducible exact Pick.here | with_reducible apply Pick.there)) rfl (aggAt rfl)) ?_
              refine G.yld (by decide) (Yld.lookupN (k := skKey p) key101 Try.runUnderlying99 Try.zeroValue22 rfl rfl (by repeat (first | with_reducible exact Pick.here | with_reducible apply Pick.there)) hal) ?_
              refine G.yld (by decide) (Yld.move rfl) ?_
              refine G.yld (by decide) (Yld.extract rfl rfl) ?_
              refine G.yld (by decide) (Yld.extract rfl rfl) ?_
              refine G.yld (by decide) (Yld.assign rfl) ?_
              refine G.yld (by decide) (Yld.assign rfl) ?_
              refine G.done ?_
              refine G.seq ?_
              refine G.region ?_
              refine G.yld (by decide) (Yld.move rfl) ?_
              refine G.done ?_
              refine G.condF rfl ?_
              refine G.draw Try_mixed (.still 0 (.still 1 (.still 2 (.still 3 (.still 4 (.still 5 (.still 6 (.loud 7 false (.done))))))))) (by kernel_rfl) (.cons (A := cel _ bk _ _) (by repeat (first | with_reducible exact Pick.here | with_reducible apply Pick.there)) (.cons (A := cel _ b12 _ _) (by repeat (first | with_reducible exact Pick.here | with_reducible apply Pick.there)) .nil)) ?_
              refine GO.yld (i := 0) rfl (by decide) (Yld.move rfl) ?_
              refine GO.yld (i := 1) rfl (by decide) (Yld.loadAgg (cs := [_, _]) rfl Try.isAgg101 Try.sizeOf101 (by repeat (first | with_reducible exact Pick.here | with_reducible apply Pick.there)) rfl (aggAt rfl)) ?_
              refine GO.yld (i := 2) rfl (by decide) (Yld.move rfl) ?_
              refine GO.yld (i := 3) rfl (by decide) (Yld.nilCheck rfl) ?_
              refine GO.yld (i := 4) rfl (by decide) (Yld.fieldAddr Try_fo93_0 rfl) ?_
              refine GO.yld (i := 5) rfl (by decide) (Yld.fieldAddr Try_fo36_7 rfl) ?_
              refine GO.yld (i := 6) rfl (by decide) (Yld.load rfl Try.isAgg22 (by repeat (first | with_reducible exact Pick.here | with_reducible apply Pick.there)) rfl) ?_
              refine GO.x ?_
              refine GX.op0 (i := 7) rfl  (OpC.mapUpdate (enc := encSL) (k := skKey p) key101 Try.runUnderlying99 rfl rfl rfl (by repeat (first | with_reducible exact Pick.here | with_reducible apply Pick.there))) fun _ => ?_
              rw [aset_mU]
              refine GX.done ?_
              refine G.nil ?_
              refine G.x_block (G.x_then ?_)
              refine G.region ?_
              refine G.yld (by decide) (Yld.add_i (b := (1 : Int)) rfl rfl (by omega)) ?_
              refine G.yld (by decide) (Yld.move rfl) ?_
              refine G.done ?_
              refine G.nil ?_
              refine G.x_then ?_
              exact G.againE (k + 1) (by omega) (.cons (t := 0) rfl (.cons (t := 1) rfl (.cons (t := 4) rfl (.cons (t := 6) rfl (.as (t := 7) rfl (congrArg Value.bool (by simp)) (.cons (t := 8) rfl (.cons (t := 9) rfl (.cons (t := 24) rfl (.cons (t := 25) rfl (.cons (t := 26) rfl .nil)))))))))) (.cons (.lift ⟨by omega, hg2⟩) (.cons (.pick (by repeat (first | with_reducible exact Pick.here | with_reducible apply Pick.there))) (.cons (.pick (by repeat (first | with_reducible exact Pick.here | with_reducible apply Pick.there))) (.cons (.pick (by repeat (first | with_reducible exact Pick.here | with_reducible apply Pick.there))) (.cons (.imp (.pick (A := cel _ bb _ _) (by repeat (first | with_reducible exact Pick.here | with_reducible apply Pick.there))) fun _ h => .inr ⟨bb, T, off, _, pre, post, rfl, hpre, hcs, hpost, hle2, h⟩) (.cons (entPs hbk (p' := p) (entP (.pick (A := sl false _ bv _ _) (by repeat (first | with_reducible exact Pick.here | with_reducible apply Pick.there))) (.pick (A := cel _ bk _ _) (by repeat (first | with_reducible exact Pick.here | with_reducible apply Pick.there))) rfl) (.pick (A := isPs (bs.take k) _) (by repeat (first | with_reducible exact Pick.here | with_reducible apply Pick.there))) (.pick (A := isPs (bs.drop (k + 1)) _) (by repeat (first | with_reducible exact Pick.here | with_reducible apply Pick.there))) (set_same hp) (by omega)) (.cons (.pick (by repeat (first | with_reducible exact Pick.here | with_reducible apply Pick.there))) (.cons (.imp (.pick (A := mapA encSL _ _) (by repeat (first | with_reducible exact Pick.here | with_reducible apply Pick.there))) fun _ h => by rw [skAll_succ hp]; simpa [skStep, hlo, hgl] using h) .nil))))))))
            · rw [hgl] at hal
              refine G.skip ?_
              refine G.seq ?_
              refine G.region ?_
              refine G.yld (by decide) (Yld.move rfl) ?_
              refine G.yld (by decide) (Yld.loadAgg (cs := [_, _]) rfl Try.isAgg101 Try.sizeOf101 (by repeat (first | with_reducible exact Pick.here | with_reducible apply Pick.there)) rfl (aggAt rfl)) ?_
              refine G.yld (by decide) (Yld.lookupS (k := skKey p) key101 Try.runUnderlying99 Try.zeroValue22 rfl rfl (by repeat (first | with_reducible exact Pick.here | with_reducible apply Pick.there)) hal) ?_
              refine G.yld (by decide) (Yld.move rfl) ?_
              refine G.yld (by decide) (Yld.extract rfl rfl) ?_
              refine G.yld (by decide) (Yld.extract rfl rfl) ?_
              refine G.yld (by decide) (Yld.assign rfl) ?_
              refine G.yld (by decide) (Yld.assign rfl) ?_
              refine G.done ?_
              refine G.seq ?_
              refine G.region ?_
              refine G.yld (by decide) (Yld.move rfl) ?_
              refine G.done ?_
              refine G.condT rfl ?_
              refine G.draw Try_mixed (.still 0 (.still 1 (.still 2 (.still 3 (.still 4 (.still 5 (.still 6 (.still 7 (.loud 8 true (.loud 9 false (.done))))))))))) (by kernel_rfl) (.cons (A := cel _ bk _ _) (by repeat (first | with_reducible exact Pick.here | with_reducible apply Pick.there)) (.cons (A := cel _ b12 _ _) (by repeat (first | with_reducible exact Pick.here | with_reducible apply Pick.there)) .nil)) ?_
              refine GO.yld (i := 0) rfl (by decide) (Yld.move rfl) ?_
              refine GO.yld (i := 1) rfl (by decide) (Yld.loadAgg (cs := [_, _]) rfl Try.isAgg101 Try.sizeOf101 (by repeat (first | with_reducible exact Pick.here | with_reducible apply Pick.there)) rfl (aggAt rfl)) ?_
              refine GO.yld (i := 2) rfl (by decide) (Yld.move rfl) ?_
              refine GO.yld (i := 3) rfl (by decide) (Yld.move rfl) ?_
              refine GO.yld (i := 4) rfl (by decide) (Yld.nilCheck rfl) ?_
              refine GO.yld (i := 5) rfl (by decide) (Yld.fieldAddr Try_fo93_0 rfl) ?_
              refine GO.yld (i := 6) rfl (by decide) (Yld.fieldAddr Try_fo36_7 rfl) ?_
              refine GO.yld (i := 7) rfl (by decide) (Yld.load rfl Try.isAgg22 (by repeat (first | with_reducible exact Pick.here | with_reducible apply Pick.there)) rfl) ?_
              refine GO.opc (i := 8) rfl (by decide) (OpC.call Try.call44 rfl (later_spec _ _) .nil) (fun _ => (.cons (A := cel _ bk _ _) (by repeat (first | with_reducible exact Pick.here | with_reducible apply Pick.there)) (.cons (A := cel _ b12 _ _) (by repeat (first | with_reducible exact Pick.here | with_reducible apply Pick.there)) .nil))) fun v => ?_
              refine GO.lift ?_
              rintro rfl
              refine GO.x ?_
              refine GX.op0 (i := 9) rfl  (OpC.mapUpdate (enc := encSL) (k := skKey p) key101 Try.runUnderlying99 rfl rfl rfl (by repeat (first | with_reducible exact Pick.here | with_reducible apply Pick.there))) fun _ => ?_
              rw [aset_mU]
              refine GX.done ?_
              refine G.nil ?_
              refine G.x_block (G.x_then ?_)
              refine G.region ?_
              refine G.yld (by decide) (Yld.add_i (b := (1 : Int)) rfl rfl (by omega)) ?_
              refine G.yld (by decide) (Yld.move rfl) ?_
              refine G.done ?_
              refine G.nil ?_
              refine G.x_then ?_
              exact G.againE (k + 1) (by omega) (.cons (t := 0) rfl (.cons (t := 1) rfl (.cons (t := 4) rfl (.cons (t := 6) rfl (.as (t := 7) rfl (congrArg Value.bool (by simp)) (.cons (t := 8) rfl (.cons (t := 9) rfl (.cons (t := 24) rfl (.cons (t := 25) rfl (.cons (t := 26) rfl .nil)))))))))) (.cons (.lift ⟨by omega, hg2⟩) (.cons (.pick (by repeat (first | with_reducible exact Pick.here | with_reducible apply Pick.there))) (.cons (.pick (by repeat (first | with_reducible exact Pick.here | with_reducible apply Pick.there))) (.cons (.pick (by repeat (first | with_reducible exact Pick.here | with_reducible apply Pick.there))) (.cons (.imp (.pick (A := cel _ bb _ _) (by repeat (first | with_reducible exact Pick.here | with_reducible apply Pick.there))) fun _ h => .inr ⟨bb, T, off, _, pre, post, rfl, hpre, hcs, hpost, hle2, h⟩) (.cons (entPs hbk (p' := p) (entP (.pick (A := sl false _ bv _ _) (by repeat (first | with_reducible exact Pick.here | with_reducible apply Pick.there))) (.pick (A := cel _ bk _ _) (by repeat (first | with_reducible exact Pick.here | with_reducible apply Pick.there))) rfl) (.pick (A := isPs (bs.take k) _) (by repeat (first | with_reducible exact Pick.here | with_reducible apply Pick.there))) (.pick (A := isPs (bs.drop (k + 1)) _) (by repeat (first | with_reducible exact Pick.here | with_reducible apply Pick.there))) (set_same hp) (by omega)) (.cons (.pick (by repeat (first | with_reducible exact Pick.here | with_reducible apply Pick.there))) (.cons (.imp (.pick (A := mapA encSL _ _) (by repeat (first | with_reducible exact Pick.here | with_reducible apply Pick.there))) fun _ h => by rw [skAll_succ hp]; simpa [skStep, hlo, hgl] using h) .nil))))))))
      · refine G.exit ?_
        refine G.x_exit_then (G.x_exit_then ?_)
        refine G.x_exit_block (G.x_then ?_)
        refine G.unframe (by repeat (first | exact App.nil | apply App.cons)) ?_
        refine G.nil ?_
        have hk2 : k = f.ps.length := by omega
        have hG : goneN f.ps = k := goneN_stop hg hk fun q hq => by rw [hk2] at hq; simp at hq
        exact G.cutXEnd k (.cons (t := 0) rfl (.cons (t := 4) rfl (.cons (t := 6) rfl (.cons (t := 7) rfl (.cons (t := 8) rfl (.cons (t := 9) rfl .nil)))))) (.cons (.lift hG) (.cons (.pick (by repeat (first | with_reducible exact Pick.here | with_reducible apply Pick.there))) (.cons (.pick (by repeat (first | with_reducible exact Pick.here | with_reducible apply Pick.there))) (.cons (.pick (by repeat (first | with_reducible exact Pick.here | with_reducible apply Pick.there))) (.cons (.pick (by repeat (first | with_reducible exact Pick.here | with_reducible apply Pick.there))) (.cons (.pick (by repeat (first | with_reducible exact Pick.here | with_reducible apply Pick.there))) (.cons (.pick (by repeat (first | with_reducible exact Pick.here | with_reducible apply Pick.there))) (.cons (.pick (by repeat (first | with_reducible exact Pick.here | with_reducible apply Pick.there))) .nil))))))))
    refine G.lift fun hG => ?_
    refine G.seq ?_
    refine G.seq ?_
    refine G.region ?_
    refine G.yld (by decide) (Yld.move rfl) ?_
    refine G.yld (by decide) (Yld.notP rfl) ?_
    refine G.done ?_
    refine G.condP rfl (fun h0 => ?_) (fun h0 => ?_)
    · have hk0 : goneN f.ps = 0 := by omega
      refine G.seq ?_
      refine G.region ?_
      refine G.yld (by decide) (Yld.buildS (cs := [_, _, _, _, _, _, _, _, _, _, _, _, _, _, _, _, _, _, _]) Try_z36 Try_pl36 rfl rfl .nil rfl) ?_
      refine G.op0  (OpC.storeAgg (k := 19) Try.sizeOf36 rfl rfl rfl rfl (by repeat (first | with_reducible exact Pick.here | with_reducible apply Pick.there)) (setWhole rfl) (Nat.le_of_ble_eq_true rfl)) fun _ => ?_
      refine G.yld (by decide) (Yld.assign rfl) ?_
      refine G.done ?_
      refine G.ret ?_
      refine G.ret2 (.inr rfl) Try.results16 (.agg (cs := [_, _, _, _, _, _, _, _, _, _, _, _, _, _, _, _, _, _, _]) rfl Try.isAgg36 Try.sizeOf36 (by repeat (first | with_reducible exact Pick.here | with_reducible apply Pick.there)) rfl (aggAt rfl)) (.tmp rfl) ?_
      exact ⟨_, (by rw [show f.point true = none by simp [Fm.point, hk0]]; exact (.ex nilS (.star (.lift rfl) (.star (.imp .emp fun _ _ => sl_nil) (entF (.pick (by repeat (first | with_reducible exact Pick.here | with_reducible apply Pick.there))) (.pick (by repeat (first | with_reducible exact Pick.here | with_reducible apply Pick.there))) rfl (.pick (by repeat (first | with_reducible exact Pick.here | with_reducible apply Pick.there))) (.pick (by repeat (first | with_reducible exact Pick.here | with_reducible apply Pick.there))))))))⟩
    · have hk0 : goneN f.ps ≠ 0 := by omega
      refine G.skip ?_
      refine G.seq ?_
      refine G.region ?_
      refine G.yld (by decide) (Yld.move rfl) ?_
      refine G.yld (by decide) (Yld.nilCheck rfl) ?_
      refine G.yld (by decide) (Yld.fieldAddr Try_fo87_0 rfl) ?_
      refine G.yld (by decide) (Yld.load rfl Try.isAgg22 (by repeat (first | with_reducible exact Pick.here | with_reducible apply Pick.there)) rfl) ?_
      refine G.yld (by decide) (Yld.move rfl) ?_
      refine G.yld (by decide) (Yld.conv_i_u32 Try.runUnderlying3 Try.runUnderlying22 rfl) ?_
      refine G.yld (by decide) (Yld.add_u32 rfl rfl) ?_
      refine G.yld (by decide) (Yld.fieldAddr Try_fo36_5 rfl) ?_
      refine G.op0  (OpC.storeS (.succ (.succ (.succ (.succ (.succ .zero))))) Try.sizeOf22 rfl rfl rfl (by repeat (first | with_reducible exact Pick.here | with_reducible apply Pick.there))) fun _ => ?_
      refine G.done ?_
      refine G.seq ?_
      refine G.seq ?_
      refine G.region ?_
      refine G.yld (by decide) (Yld.move rfl) ?_
      refine G.opc (by decide) (OpC.range (enc := encSL) Try.runUnderlying99 rfl (by repeat (first | with_reducible exact Pick.here | with_reducible apply Pick.there))) fun bi => ?_
      refine G.done ?_
      refine G.block ?_
      have hskn := skAll_nodup true (f.ps.take k)
      have hskl := skAll_length true (f.ps.take k)
      have htl : (f.ps.take k).length ≤ f.ps.length := by simp; omega
      refine G.loopE (X := List Nat) (fun is => [(0, ptr b), (4, ptr b4), (6, ptr b6), (90, ptr bi)]) (fun is => [mapR encSL rs bi (mU vU32 (skAll true (f.ps.take k))) is, ex fun v => star (cel true b6 36 (ckv { kind := 194, tsn := f.mark + UInt32.ofNat ((k : Int) % 4294967296).toNat } nilS nilS v nilS nilS)) (sl true 3 v is.length (skc (is.map (skAt (skAll true (f.ps.take k)))))), cel true b4 36 [.int .u8 0, .bool false, .bool false, .bool false, .bool false, .int .u32 0, .int .u16 0, .int .u32 0, .int .u32 0, .int .u32 0, .int .u32 0, .int .u32 0, .int .u16 0, .int .u16 0, .slice none 0 0, .slice none 0 0, .slice none 0 0, .slice none 0 0, .slice none 0 0], cel true b 87 [vU32 f.mark, .slice a f.ps.length cap, .map (some r)], sl true 1 (.slice a f.ps.length cap) f.ps.length (ptc bs), isPs bs f.ps, mapA encI r (goneC f.gone)]) (fun is => (skAll true (f.ps.take k)).length - is.length) [] (.cons (t := 0) rfl (.cons (t := 4) rfl (.cons (t := 6) rfl (.cons (t := 90) rfl .nil)))) (.cons (.pick (by repeat (first | with_reducible exact Pick.here | with_reducible apply Pick.there))) (.cons (.ex nilS (.star (.pick (A := cel _ b6 _ _) (by repeat (first | with_reducible exact Pick.here | with_reducible apply Pick.there))) (.imp .emp fun _ _ => sl_nil))) (Ents.of_picks (.cons (by repeat (first | with_reducible exact Pick.here | with_reducible apply Pick.there)) (.cons (by repeat (first | with_reducible exact Pick.here | with_reducible apply Pick.there)) (.cons (by repeat (first | with_reducible exact Pick.here | with_reducible apply Pick.there)) (.cons (by repeat (first | with_reducible exact Pick.here | with_reducible apply Pick.there)) (.cons (by repeat (first | with_reducible exact Pick.here | with_reducible apply Pick.there)) .nil)))))))) fun is => ?_
      refine G.seq ?_
      refine G.region ?_
      refine G.opc (by decide) (OpC.next rfl (by repeat (first | with_reducible exact Pick.here | with_reducible apply Pick.there))) fun nx => ?_
      obtain _ | ⟨i, k1, v1⟩ := nx
      · refine G.lift fun hnx => ?_
        refine G.yld (by decide) (Yld.extract rfl rfl) ?_
        refine G.done ?_
        refine G.seq ?_
        refine G.condF rfl ?_
        refine G.exit ?_
        refine G.x_exit_then (G.x_exit_then ?_)
        refine G.x_exit_block (G.x_then ?_)
        refine G.unframe (by repeat (first | exact App.nil | apply App.cons)) ?_
        refine G.seq ?_
        refine G.pick (A := ex _) (by repeat (first | with_reducible exact Pick.here | with_reducible apply Pick.there)) (G.ex fun vs => G.star ?_)
        rw [mU_length] at hnx
        have hperm := skAt_perm hnx
        have hnd : ((is.map (skAt (skAll true (f.ps.take k)))).map fun s => (s.stream, s.loose)).Nodup := ((hperm.map _).nodup_iff).2 (sk_keys hskn)
        have hlen2 : is.length = (skAll true (f.ps.take k)).length := by simpa using hnx.length_eq
        refine G.conv (A := sl true 3 vs _ _) (by repeat (first | with_reducible exact Pick.here | with_reducible apply Pick.there)) (A' := sl true 3 vs (is.map (skAt (skAll true (f.ps.take k)))).length (skc (is.map (skAt (skAll true (f.ps.take k)))))) (fun _ h => by simpa using h) ?_
        refine G.fact (A := sl true _ vs _ _) (by repeat (first | with_reducible exact Pick.here | with_reducible apply Pick.there)) sl_cell fun hvs => ?_
        refine G.region ?_
        refine G.yld (by decide) (Yld.fieldAddr Try_fo36_16 rfl) ?_
        refine G.yld (by decide) (Yld.load rfl Try.isAgg33 (by repeat (first | with_reducible exact Pick.here | with_reducible apply Pick.there)) rfl) ?_
        refine G.opc (by decide) (OpC.call Try.call45 rfl (hss vs (is.map (skAt (skAll true (f.ps.take k)))) (by simp; omega) hnd) (.cons (A := sl true _ vs _ _) (by repeat (first | with_reducible exact Pick.here | with_reducible apply Pick.there)) .nil)) fun _ => ?_
        rw [sortSk_perm hperm hnd]
        refine G.done ?_
        refine G.seq ?_
        refine G.region ?_
        refine G.yld (by decide) (Yld.loadAgg (cs := [_, _, _, _, _, _, _, _, _, _, _, _, _, _, _, _, _, _, _]) rfl Try.isAgg36 Try.sizeOf36 (by repeat (first | with_reducible exact Pick.here | with_reducible apply Pick.there)) rfl (aggAt rfl)) ?_
        refine G.op0  (OpC.storeAgg (k := 19) Try.sizeOf36 rfl rfl rfl (by simp only [List.all_cons, List.all_nil, hvs]; rfl) (by repeat (first | with_reducible exact Pick.here | with_reducible apply Pick.there)) (setWhole rfl) (Nat.le_of_ble_eq_true rfl)) fun _ => ?_
        refine G.yld (by decide) (Yld.assign rfl) ?_
        refine G.done ?_
        refine G.ret ?_
        refine G.ret2 (.inr rfl) Try.results16 (.agg (cs := [_, _, _, _, _, _, _, _, _, _, _, _, _, _, _, _, _, _, _]) rfl Try.isAgg36 Try.sizeOf36 (by repeat (first | with_reducible exact Pick.here | with_reducible apply Pick.there)) rfl (aggAt rfl)) (.tmp rfl) ?_
        exact ⟨_, (by rw [show f.point true = some ({ kind := 194, tsn := f.mark + UInt32.ofNat ((k : Int) % 4294967296).toNat }, sortSk ((skAll true (f.ps.take k)).map skOf)) by simp [Fm.point, hG]; omega]; exact (.ex vs (.star (.lift rfl) (.star (.imp (.pick (A := sl true 3 vs _ _) (by repeat (first | with_reducible exact Pick.here | with_reducible apply Pick.there))) fun _ h => by simpa [ptO, sortSk, hlen2] using h) (entF (.pick (A := cel _ b _ _) (by repeat (first | with_reducible exact Pick.here | with_reducible apply Pick.there))) (.pick (by repeat (first | with_reducible exact Pick.here | with_reducible apply Pick.there))) rfl (.pick (by repeat (first | with_reducible exact Pick.here | with_reducible apply Pick.there))) (.pick (by repeat (first | with_reducible exact Pick.here | with_reducible apply Pick.there))))))))⟩
      · refine G.lift fun hnx => ?_
        refine G.yld (by decide) (Yld.extract rfl rfl) ?_
        refine G.done ?_
        refine G.seq ?_
        refine G.condT rfl ?_
        obtain ⟨hy, hni⟩ := hnx
        dsimp only at hy hni ⊢
        obtain ⟨e, he, he1, he2⟩ := mU_get hy
        subst he1; subst he2
        refine G.fact (A := mapR _ _ _ _ _) (by repeat (first | with_reducible exact Pick.here | with_reducible apply Pick.there)) mapR_len fun hil => ?_
        rw [mU_length] at hil
        have hil2 : is.length + 1 ≤ (skAll true (f.ps.take k)).length := by simpa using hil
        refine G.skip ?_
        refine G.block ?_
        refine G.seq ?_
        refine G.region ?_
        refine G.yld (by decide) (Yld.entry rfl (by repeat (first | with_reducible exact Pick.here | with_reducible apply Pick.there)) hy) ?_
        refine G.yld (by decide) (Yld.extract rfl rfl) ?_
        refine G.yld (by decide) (Yld.extract rfl rfl) ?_
        refine G.opc (by decide) (OpC.alloc (cs := [.int .u16 0, .bool false]) Try.zeroValue101 rfl) fun b15 => ?_
        refine G.op0  (OpC.storeAgg (k := 2) Try.sizeOf101 rfl rfl rfl rfl (by repeat (first | with_reducible exact Pick.here | with_reducible apply Pick.there)) (setWhole rfl) (Nat.le_of_ble_eq_true rfl)) fun _ => ?_
        refine G.yld (by decide) (Yld.assign rfl) ?_
        refine G.done ?_
        refine G.pick (A := ex _) (by repeat (first | with_reducible exact Pick.here | with_reducible apply Pick.there)) (G.ex fun vs => G.star ?_)
        refine G.region ?_
        refine G.yld (by decide) (Yld.fieldAddr Try_fo36_16 rfl) ?_
        refine G.yld (by decide) (Yld.load rfl Try.isAgg33 (by repeat (first | with_reducible exact Pick.here | with_reducible apply Pick.there)) rfl) ?_
        refine G.yld (by decide) (Yld.fieldAddr Try_fo101_0 rfl) ?_
        refine G.yld (by decide) (Yld.load rfl Try.isAgg30 (by repeat (first | with_reducible exact Pick.here | with_reducible apply Pick.there)) rfl) ?_
        refine G.yld (by decide) (Yld.fieldAddr Try_fo101_1 rfl) ?_
        refine G.yld (by decide) (Yld.load rfl Try.isAgg4 (by repeat (first | with_reducible exact Pick.here | with_reducible apply Pick.there)) rfl) ?_
        refine G.yld (by decide) (Yld.move rfl) ?_
        refine G.yld (by decide) (Yld.buildS (cs := [_, _, _]) Try_z52 Try_pl52 rfl rfl (.cons rfl rfl (Nat.le_of_ble_eq_true rfl) (.cons rfl rfl (Nat.le_of_ble_eq_true rfl) (.cons rfl rfl (Nat.le_of_ble_eq_true rfl) .nil))) rfl) ?_
        refine G.opc (by decide) (OpC.buildOne (cs := (skv (skOf e))) Try.runUnderlying33 Try.sizeOf52 Try.zeroValue52 rfl rfl rfl rfl (by decide)) fun bn => ?_
        refine G.fold (.imp (.pick (A := cel _ bn _ _) (by repeat (first | with_reducible exact Pick.here | with_reducible apply Pick.there))) (sl_row (k := 3) (n := 1) rfl)) ?_
        refine G.opc (by decide) (OpC.appendE (kk := 3) (bytes := 8) Try.underlying33 Try.type52 rfl rfl rfl rfl rfl Try.underlying33 rfl rfl (by repeat (first | with_reducible exact Pick.here | with_reducible apply Pick.there)) (by repeat (first | with_reducible exact Pick.here | with_reducible apply Pick.there)) rfl (room_of _ _ (by decide) (by omega)) rfl (skc_snoc _ (skOf e))) fun va => ?_
        refine G.fact (A := sl true _ va _ _) (by repeat (first | with_reducible exact Pick.here | with_reducible apply Pick.there)) sl_cell fun hva => ?_
        refine G.yld (by decide) (Yld.fieldAddr Try_fo36_16 rfl) ?_
        refine G.op0  (OpC.storeS (.succ (.succ (.succ (.succ (.succ (.succ (.succ (.succ (.succ (.succ (.succ (.succ (.succ (.succ (.succ (.succ .zero)))))))))))))))) Try.sizeOf33 rfl rfl hva (by repeat (first | with_reducible exact Pick.here | with_reducible apply Pick.there))) fun _ => ?_
        refine G.done ?_
        refine G.nil ?_
        refine G.x_block (G.x_then ?_)
        refine G.nil ?_
        refine G.x_then ?_
        exact G.againE (is ++ [i]) (by simp; omega) (.cons (t := 0) rfl (.cons (t := 4) rfl (.cons (t := 6) rfl (.cons (t := 90) rfl .nil)))) (.cons (.pick (by repeat (first | with_reducible exact Pick.here | with_reducible apply Pick.there))) (.cons (.ex va (.star (.pick (A := cel _ b6 _ _) (by repeat (first | with_reducible exact Pick.here | with_reducible apply Pick.there))) (.imp (.pick (A := sl true 3 va _ _) (by repeat (first | with_reducible exact Pick.here | with_reducible apply Pick.there))) fun _ h => by simpa [skAt, he] using h))) (Ents.of_picks (.cons (by repeat (first | with_reducible exact Pick.here | with_reducible apply Pick.there)) (.cons (by repeat (first | with_reducible exact Pick.here | with_reducible apply Pick.there)) (.cons (by repeat (first | with_reducible exact Pick.here | with_reducible apply Pick.there)) (.cons (by repeat (first | with_reducible exact Pick.here | with_reducible apply Pick.there)) (.cons (by repeat (first | with_reducible exact Pick.here | with_reducible apply Pick.there)) .nil))))))))
end Go.Fl
