/- Contracts, printed by a program of mine and proved by Lean. -/
import Derived.Test.YtogemllbdkbjkaaFlSpanF
import Derived.Test.YtogemllbdkbjkaaR1Facts
import Derived.Test.YtogemllbdkbjkaaFlA1
set_option linter.unusedVariables false
set_option linter.unusedSimpArgs false
namespace Go.Fl
open Go Go.Sl Go.Proofs
set_option maxRecDepth 10000
set_option linter.unusedVariables false
theorem insert_spec (a : Option Addr) (c : Nat) (rows : List Row) (i vb : Nat) (r : Row) (hi : i ≤ rows.length) (hsmall : rows.length < 1000000) : Sl.Spec Try.prog 55 [.slice a rows.length c, vI i, .slice (some ⟨vb, 0, none⟩) 1 1].toArray [sl true 2 (.slice a rows.length c) rows.length (rowc rows), cel true vb 121 (rowv r)] (fun v => ex fun (x : Option Addr × Nat) => star (lift (v = .slice x.1 (rows.length + 1) x.2)) (sl true 2 (.slice x.1 (rows.length + 1) x.2) (rows.length + 1) (rowc (insR rows i r)))) := by
  refine Sl.Spec.of_body (vs := [.slice a rows.length c, vI i, .slice (some ⟨vb, 0, none⟩) 1 1]) Try.func55 Try.ntmps55 (Nat.le_of_ble_eq_true rfl) rfl fun w0 F => ?_
  refine G.fact (A := sl true 2 (.slice a _ _) _ _) (by repeat (first | with_reducible exact Pick.here | with_reducible apply Pick.there)) sl_cap fun hcap => ?_
  refine G.seq ?_
  refine G.region ?_
  refine G.yld (by decide) (Yld.assign rfl) ?_
  refine G.done ?_
  refine G.seq ?_
  refine G.region ?_
  refine G.yld (by decide) (Yld.move rfl) ?_
  refine G.yld (by decide) (Yld.move rfl) ?_
  refine G.yld (by decide) (Yld.sliceFrom Try.underlying109 Try.sizeOf121 rfl rfl (by omega) (by omega)) ?_
  refine G.done ?_
  refine G.seq ?_
  refine G.region ?_
  refine G.yld (by decide) (Yld.move rfl) ?_
  refine G.yld (by decide) (Yld.len_slice Try.runUnderlying109 rfl) ?_
  rw [show ((1 : Nat) : Int) = (1 : Int) from rfl]
  refine G.yld (by decide) (Yld.assign rfl) ?_
  refine G.done ?_
  refine G.seq ?_
  refine G.seq ?_
  refine G.region ?_
  refine G.yld (by decide) (Yld.move rfl) ?_
  refine G.yld (by decide) (Yld.eql_i (b := (0 : Int)) rfl rfl) ?_
  refine G.as (t := 16) (v := .bool false) rfl (congrArg Value.bool (decide_eq_false (by decide))) ?_
  refine G.done ?_
  refine G.condF rfl ?_
  refine G.skip ?_
  refine G.seq ?_
  refine G.region ?_
  refine G.yld (by decide) (Yld.move rfl) ?_
  refine G.yld (by decide) (Yld.len_slice Try.runUnderlying109 rfl) ?_
  refine G.yld (by decide) (Yld.assign rfl) ?_
  refine G.done ?_
  refine G.seq ?_
  refine G.seq ?_
  refine G.region ?_
  refine G.yld (by decide) (Yld.move rfl) ?_
  refine G.yld (by decide) (Yld.move rfl) ?_
  refine G.yld (by decide) (Yld.eql_i rfl rfl) ?_
  refine G.done ?_
  refine G.condP rfl (fun hin => ?_) (fun hin => ?_)
  · have hil : i = rows.length := by omega
    subst hil
    refine G.fold (A := sl true 2 (.slice (some ⟨vb, 0, none⟩) 1 1) 1 (rowv r)) (.imp (.pick (A := cel _ vb _ _) (by repeat (first | with_reducible exact Pick.here | with_reducible apply Pick.there))) (fun r h => sl_row (k := 2) (n := 1) rfl r (by exact h))) ?_
    refine G.seq ?_
    refine G.region ?_
    refine G.yld (by decide) (Yld.move rfl) ?_
    refine G.yld (by decide) (Yld.move rfl) ?_
    refine G.opc (by decide) (OpC.appendE (kk := 2) (bytes := 8) Try.underlying109 Try.type121 rfl rfl rfl rfl rfl Try.underlying109 rfl rfl (show Pick _ (sl true 2 (.slice a _ _) _ _) _ from by repeat (first | with_reducible exact Pick.here | with_reducible apply Pick.there)) (by repeat (first | with_reducible exact Pick.here | with_reducible apply Pick.there)) rfl (room_of _ _ (by decide) (by omega)) rfl rfl) fun vg => ?_
    refine G.slv fun a2 c2 hvg hlg hcg => ?_
    subst hvg
    refine G.yld (by decide) (Yld.assign rfl) ?_
    refine G.done ?_
    refine G.ret ?_
    refine G.ret1 (.inr rfl) Try.results55 (.tmp rfl) ?_
    exact ⟨_, (.ex (a2, c2) (.star (.lift rfl) (.imp (.pick (A := sl true 2 (.slice a2 _ _) _ _) (by repeat (first | with_reducible exact Pick.here | with_reducible apply Pick.there))) (fun q h => by simp only [insR, List.take_length, List.drop_length]; rw [rowc_app]; exact h))))⟩
  · have hil : i < rows.length := by omega
    refine G.fact (A := sl true 2 (.slice a _ _) _ _) (by repeat (first | with_reducible exact Pick.here | with_reducible apply Pick.there)) (sl_some (by rw [rowc_length]; omega)) fun hsome => ?_
    obtain ⟨b, off, rfl⟩ := hsome
    refine G.skip ?_
    refine G.seq ?_
    refine G.seq ?_
    refine G.region ?_
    refine G.yld (by decide) (Yld.move rfl) ?_
    refine G.yld (by decide) (Yld.move rfl) ?_
    refine G.yld (by decide) (Yld.add_i rfl rfl (by omega)) ?_
    refine G.yld (by decide) (Yld.move rfl) ?_
    refine G.yld (by decide) (Yld.cap_slice Try.runUnderlying109 rfl) ?_
    refine G.yld (by decide) (Yld.gtr_i rfl rfl) ?_
    refine G.done ?_
    refine G.condP rfl (fun hg => ?_) (fun hg => ?_)
    · refine G.seq ?_
      refine G.region ?_
      refine G.yld (by decide) (Yld.move rfl) ?_
      refine G.yld (by decide) (Yld.move rfl) ?_
      refine G.yld (by decide) (Yld.sliceTo Try.underlying109 Try.sizeOf121 rfl rfl (by omega) (by omega)) ?_
      rw [Int.toNat_natCast]
      refine G.yld (by decide) (Yld.move rfl) ?_
      refine G.yld (by decide) (Yld.move rfl) ?_
      refine G.yld (by decide) (Yld.add_i rfl rfl (by omega)) ?_
      refine G.yld (by decide) (Yld.move rfl) ?_
      refine G.yld (by decide) (Yld.sub_i rfl rfl (by omega)) ?_
      rw [show (rows.length : Int) + 1 - (i : Int) = ((rows.length + 1 - i : Nat) : Int) by omega]
      refine G.opc (by decide) (OpC.appendZ (kk := 2) (bytes := 8) (n := rows.length) Try.underlying109 Try.underlying3 Try.type121 rfl rfl rfl rfl (by decide) rfl rfl (show Pick _ (sl true 2 (.slice (some ⟨b, off, none⟩) _ _) _ _) _ from by repeat (first | with_reducible exact Pick.here | with_reducible apply Pick.there)) (by omega) (by omega) (by omega) (room_of _ _ (by decide) (by omega)) (by omega)) fun ⟨⟨gb, gc, gz⟩, hgc, hgz⟩ => ?_
      simp only at hgc hgz ⊢
      rw [show i + (rows.length + 1 - i) = rows.length + 1 by omega] at hgc ⊢
      refine G.yld (by decide) (Yld.assign rfl) ?_
      refine G.done ?_
      refine G.seq ?_
      refine G.region ?_
      refine G.yld (by decide) (Yld.move rfl) ?_
      refine G.yld (by decide) (Yld.move rfl) ?_
      refine G.yld (by decide) (Yld.sliceFrom Try.underlying109 Try.sizeOf121 rfl rfl (by omega) (by omega)) ?_
      rw [Int.toNat_natCast, subS_lt (by omega)]
      refine G.yld (by decide) (Yld.move rfl) ?_
      refine G.opc (by decide) (OpC.copy (j := 1) (ds := rowv r) (k := 2) Try.underlying109 rfl rfl rfl (show Pick _ (cel true gb _ _) _ from by repeat (first | with_reducible exact Pick.here | with_reducible apply Pick.there)) (.cel (b := vb) (o := 0) (vs := rowv r) (m := true) (T := 121) (show Pick _ (cel true vb _ _) _ from by repeat (first | with_reducible exact Pick.here | with_reducible apply Pick.there)) rfl) (by show min 1 (rows.length + 1 - i) = 1; omega) rfl rfl (by rw [List.length_append, rowc_take, len_take (Nat.le_of_lt hil)]; show 0 + i * 2 + 2 ≤ _; omega) (grow1 (Nat.le_of_lt hil) (by omega))) fun _ => ?_
      refine G.done ?_
      refine G.seq ?_
      refine G.draw Try_mixed (.still 0 (.still 1 (.still 2 (.still 3 (.still 4 (.still 5 (.still 6 (.still 7 (.loud 8 false (.done)))))))))) (by kernel_rfl) (Picks.refl _) ?_
      refine GO.yld (i := 0) rfl (by decide) (Yld.move rfl) ?_
      refine GO.yld (i := 1) rfl (by decide) (Yld.move rfl) ?_
      refine GO.yld (i := 2) rfl (by decide) (Yld.move rfl) ?_
      refine GO.yld (i := 3) rfl (by decide) (Yld.add_i rfl rfl (by omega)) ?_
      refine GO.yld (i := 4) rfl (by decide) (Yld.sliceFrom Try.underlying109 Try.sizeOf121 rfl rfl (by omega) (by omega)) ?_
      rw [show ((i : Int) + 1).toNat = i + 1 by omega, subS_lt (by omega)]
      refine GO.yld (i := 5) rfl (by decide) (Yld.move rfl) ?_
      refine GO.yld (i := 6) rfl (by decide) (Yld.move rfl) ?_
      refine GO.yld (i := 7) rfl (by decide) (Yld.sliceFrom Try.underlying109 Try.sizeOf121 rfl rfl (by omega) (by omega)) ?_
      rw [Int.toNat_natCast, subS_lt (by omega)]
      refine GO.x ?_
      refine GX.opc (i := 8) rfl (by decide) (OpC.copy (j := rows.length - i) (ds := rowc (rows.drop i)) (k := 2) Try.underlying109 rfl rfl rfl (show Pick _ (cel true gb _ _) _ from by repeat (first | with_reducible exact Pick.here | with_reducible apply Pick.there)) (.slO (b := b) (o := off) (q := i * 2) (cs := rowc rows) (show Pick _ (sl true 2 (.slice (some ⟨b, off, none⟩) _ _) _ _) _ from by repeat (first | with_reducible exact Pick.here | with_reducible apply Pick.there)) (by rw [rowc_drop]; exact List.take_of_length_le (Nat.le_refl _))) (by show min _ _ = _; omega) len_drop (rowc_cell _) (by simp only [List.length_append, len_take (Nat.le_of_lt hil), len_drop, List.length_drop, List.length_cons, List.length_nil]; omega) (grow2 (Nat.le_of_lt hil) (by rw [List.length_drop]; omega))) fun _ => ?_
      refine GX.done ?_
      refine G.seq ?_
      refine G.region ?_
      refine G.yld (by decide) (Yld.move rfl) ?_
      refine G.yld (by decide) (Yld.assign rfl) ?_
      refine G.done ?_
      refine G.ret ?_
      refine G.ret1 (.inr rfl) Try.results55 (.tmp rfl) ?_
      exact ⟨_, (.ex (some ⟨gb, 0, none⟩, gc) (.star (.lift rfl) (.imp (.pick (A := cel true gb _ _) (by repeat (first | with_reducible exact Pick.here | with_reducible apply Pick.there))) (fun q h => sl_shut (pre := []) (post := (gz.drop 2).drop ((rows.length - i) * 2)) rfl (by rw [rowc_length, insR_length (Nat.le_of_lt hil)]) (by simp; omega) hgc (by exact h)))))⟩
    · refine G.pick (A := sl true 2 (.slice _ _ _) _ _) (by repeat (first | with_reducible exact Pick.here | with_reducible apply Pick.there)) (G.slice (fun a0 hv hn hc => by omega) (fun b2 T off2 cap pre post hv hpre hcs hpost hle => ?_))
      simp only [Value.slice.injEq, true_and, Option.some.injEq, Addr.mk.injEq, and_true] at hv
      obtain ⟨⟨rfl, rfl⟩, rfl⟩ := hv
      have hp2 : 2 ≤ post.length := by omega
      have hl3 : (pre ++ rowc rows ++ post).length = off + rows.length * 2 + post.length := by simp only [List.length_append, rowc_length, hpre]
      refine G.skip ?_
      refine G.seq ?_
      refine G.region ?_
      refine G.yld (by decide) (Yld.move rfl) ?_
      refine G.yld (by decide) (Yld.move rfl) ?_
      refine G.yld (by decide) (Yld.move rfl) ?_
      refine G.yld (by decide) (Yld.add_i rfl rfl (by omega)) ?_
      refine G.yld (by decide) (Yld.sliceTo Try.underlying109 Try.sizeOf121 rfl rfl (by omega) (by omega)) ?_
      rw [show ((rows.length : Int) + 1).toNat = rows.length + 1 by omega]
      refine G.yld (by decide) (Yld.assign rfl) ?_
      refine G.done ?_
      refine G.seq ?_
      refine G.seq ?_
      refine G.region ?_
      refine G.yld (by decide) (Yld.move rfl) ?_
      refine G.yld (by decide) (Yld.move rfl) ?_
      refine G.yld (by decide) (Yld.move rfl) ?_
      refine G.yld (by decide) (Yld.move rfl) ?_
      refine G.yld (by decide) (Yld.add_i rfl rfl (by omega)) ?_
      refine G.yld (by decide) (Yld.sliceFrom Try.underlying109 Try.sizeOf121 rfl rfl (by omega) (by omega)) ?_
      rw [show ((i : Int) + 1).toNat = i + 1 by omega, subS_lt (by omega)]
      refine G.opc (by decide) (OpC.overlaps Try.func83 (by kernel_rfl) (by kernel_rfl) (by kernel_rfl) (by kernel_rfl) Try.underlying109 Try.sizeOf121 rfl rfl (tR := 4) (TA := 121) (us := rowv r) (show Pick _ (cel true vb _ _) _ from by repeat (first | with_reducible exact Pick.here | with_reducible apply Pick.there)) (show Pick _ (cel true b _ _) _ from by repeat (first | with_reducible exact Pick.here | with_reducible apply Pick.there)) (by omega)) fun _ => ?_
      refine G.yld (by decide) (Yld.not rfl) ?_
      refine G.done ?_
      refine G.condT rfl ?_
      refine G.seq ?_
      refine G.draw Try_mixed (.still 0 (.still 1 (.still 2 (.still 3 (.still 4 (.still 5 (.still 6 (.still 7 (.loud 8 false (.done)))))))))) (by kernel_rfl) (Picks.refl _) ?_
      refine GO.yld (i := 0) rfl (by decide) (Yld.move rfl) ?_
      refine GO.yld (i := 1) rfl (by decide) (Yld.move rfl) ?_
      refine GO.yld (i := 2) rfl (by decide) (Yld.move rfl) ?_
      refine GO.yld (i := 3) rfl (by decide) (Yld.add_i rfl rfl (by omega)) ?_
      refine GO.yld (i := 4) rfl (by decide) (Yld.sliceFrom Try.underlying109 Try.sizeOf121 rfl rfl (by omega) (by omega)) ?_
      rw [show ((i : Int) + 1).toNat = i + 1 by omega, subS_lt (by omega)]
      refine GO.yld (i := 5) rfl (by decide) (Yld.move rfl) ?_
      refine GO.yld (i := 6) rfl (by decide) (Yld.move rfl) ?_
      refine GO.yld (i := 7) rfl (by decide) (Yld.sliceFrom Try.underlying109 Try.sizeOf121 rfl rfl (by omega) (by omega)) ?_
      rw [Int.toNat_natCast, subS_lt (by omega)]
      refine GO.x ?_
      refine GX.opc (i := 8) rfl (by decide) (OpC.copy (j := rows.length - i) (ds := rowc (rows.drop i)) (k := 2) Try.underlying109 rfl rfl rfl (show Pick _ (cel true b _ _) _ from by repeat (first | with_reducible exact Pick.here | with_reducible apply Pick.there)) (.cel (b := b) (vs := pre ++ rowc rows ++ post) (m := true) (T := T) (show Pick _ (cel true b _ _) _ from by repeat (first | with_reducible exact Pick.here | with_reducible apply Pick.there)) (mid_read hpre (Nat.le_of_lt hil))) (by show min _ _ = _; omega) len_drop (rowc_cell _) (by rw [hl3, len_drop]; omega) (ins1 hpre (Nat.le_of_lt hil) hp2)) fun _ => ?_
      refine GX.done ?_
      refine G.seq ?_
      refine G.region ?_
      refine G.yld (by decide) (Yld.move rfl) ?_
      refine G.yld (by decide) (Yld.move rfl) ?_
      refine G.yld (by decide) (Yld.sliceFrom Try.underlying109 Try.sizeOf121 rfl rfl (by omega) (by omega)) ?_
      rw [Int.toNat_natCast, subS_lt (by omega)]
      refine G.yld (by decide) (Yld.move rfl) ?_
      refine G.opc (by decide) (OpC.copy (j := 1) (ds := rowv r) (k := 2) Try.underlying109 rfl rfl rfl (show Pick _ (cel true b _ _) _ from by repeat (first | with_reducible exact Pick.here | with_reducible apply Pick.there)) (.cel (b := vb) (o := 0) (vs := rowv r) (m := true) (T := 121) (show Pick _ (cel true vb _ _) _ from by repeat (first | with_reducible exact Pick.here | with_reducible apply Pick.there)) rfl) (by show min 1 (rows.length + 1 - i) = 1; omega) rfl rfl (by simp [len_take (Nat.le_of_lt hil), len_drop, hpre]; omega) (ins2 hpre (Nat.le_of_lt hil) (by simp; omega))) fun _ => ?_
      refine G.done ?_
      refine G.seq ?_
      refine G.region ?_
      refine G.yld (by decide) (Yld.move rfl) ?_
      refine G.yld (by decide) (Yld.assign rfl) ?_
      refine G.done ?_
      refine G.ret ?_
      refine G.ret1 (.inr rfl) Try.results55 (.tmp rfl) ?_
      exact ⟨_, (.ex (some ⟨b, off, none⟩, c) (.star (.lift rfl) (.imp (.pick (A := cel true b _ _) (by repeat (first | with_reducible exact Pick.here | with_reducible apply Pick.there))) (fun q h => sl_shut (pre := pre) (post := post.drop 2) hpre (by rw [rowc_length, insR_length (Nat.le_of_lt hil)]) (by simp; omega) (by omega) (by exact h)))))⟩
theorem delete_spec (a : Option Addr) (c : Nat) (rows : List Row) (i : Nat) (hi : i < rows.length) (hsmall : rows.length < 1000000) : Sl.Spec Try.prog 56 [.slice a rows.length c, vI i, vI ((i : Int) + 1)].toArray [sl true 2 (.slice a rows.length c) rows.length (rowc rows)] (fun v => ex fun (x : Option Addr × Nat) => star (lift (v = .slice x.1 (rows.length - 1) x.2)) (sl true 2 (.slice x.1 (rows.length - 1) x.2) (rows.length - 1) (rowc (rows.eraseIdx i)))) := by
  refine Sl.Spec.of_body (vs := [.slice a rows.length c, vI i, vI ((i : Int) + 1)]) Try.func56 Try.ntmps56 (Nat.le_of_ble_eq_true rfl) rfl fun w0 F => ?_
  refine G.fact (A := sl true 2 (.slice a _ _) _ _) (by repeat (first | with_reducible exact Pick.here | with_reducible apply Pick.there)) sl_cap fun hcap => ?_
  refine G.pick (A := sl true 2 (.slice a _ _) _ _) (by repeat (first | with_reducible exact Pick.here | with_reducible apply Pick.there)) (G.slice (fun a0 hv hn hc => by omega) (fun b T off cap pre post hv hpre hcs hpost hle => ?_))
  simp only [Value.slice.injEq, true_and] at hv
  obtain ⟨rfl, rfl⟩ := hv
  have hl3 : (pre ++ rowc rows ++ post).length = off + rows.length * 2 + post.length := by simp only [List.length_append, rowc_length, hpre]
  refine G.seq ?_
  refine G.region ?_
  refine G.yld (by decide) (Yld.assign rfl) ?_
  refine G.done ?_
  refine G.seq ?_
  refine G.region ?_
  refine G.yld (by decide) (Yld.move rfl) ?_
  refine G.yld (by decide) (Yld.move rfl) ?_
  refine G.yld (by decide) (Yld.move rfl) ?_
  refine G.yld (by decide) (Yld.move rfl) ?_
  refine G.yld (by decide) (Yld.len_slice Try.runUnderlying109 rfl) ?_
  refine G.yld (by decide) (Yld.slice3 Try.underlying109 Try.sizeOf121 rfl rfl rfl rfl (by omega) (by omega) (by omega) (by omega)) ?_
  refine G.done ?_
  refine G.seq ?_
  refine G.seq ?_
  refine G.region ?_
  refine G.yld (by decide) (Yld.move rfl) ?_
  refine G.yld (by decide) (Yld.move rfl) ?_
  refine G.yld (by decide) (Yld.eql_i rfl rfl) ?_
  refine G.as (t := 16) (v := .bool false) rfl (congrArg Value.bool (decide_eq_false (by omega))) ?_
  refine G.done ?_
  refine G.condF rfl ?_
  refine G.skip ?_
  refine G.seq ?_
  refine G.region ?_
  refine G.yld (by decide) (Yld.move rfl) ?_
  refine G.yld (by decide) (Yld.len_slice Try.runUnderlying109 rfl) ?_
  refine G.yld (by decide) (Yld.assign rfl) ?_
  refine G.done ?_
  refine G.seq ?_
  refine G.draw Try_mixed (.still 0 (.still 1 (.still 2 (.still 3 (.still 4 (.still 5 (.loud 6 true (.still 7 (.done))))))))) (by kernel_rfl) (.nil) ?_
  refine GO.yld (i := 0) rfl (by decide) (Yld.move rfl) ?_
  refine GO.yld (i := 1) rfl (by decide) (Yld.move rfl) ?_
  refine GO.yld (i := 2) rfl (by decide) (Yld.sliceTo Try.underlying109 Try.sizeOf121 rfl rfl (by omega) (by omega)) ?_
  rw [Int.toNat_natCast]
  refine GO.yld (i := 3) rfl (by decide) (Yld.move rfl) ?_
  refine GO.yld (i := 4) rfl (by decide) (Yld.move rfl) ?_
  refine GO.yld (i := 5) rfl (by decide) (Yld.sliceFrom Try.underlying109 Try.sizeOf121 rfl rfl (by omega) (by omega)) ?_
  rw [show ((i : Int) + 1).toNat = i + 1 by omega]
  refine GO.opc (i := 6) rfl (by decide) (OpC.appendB (kk := 2) (j := rows.length - (i + 1)) (c2 := c - (i + 1)) (ds := rowc (rows.drop (i + 1))) Try.underlying109 Try.type121 rfl Try.underlying109 rfl rfl (show Pick _ (cel true b _ _) _ from by repeat (first | with_reducible exact Pick.here | with_reducible apply Pick.there)) (del_read (show Pick _ (cel true b _ _) _ from by repeat (first | with_reducible exact Pick.here | with_reducible apply Pick.there)) hpre hi hcap) len_drop (rowc_cell _) (by omega) (by rw [hl3, len_drop]; omega) (del1 hpre hi)) (fun _ => (.nil)) fun _ => ?_
  rw [show i + (rows.length - (i + 1)) = rows.length - 1 by omega]
  refine GO.yld (i := 7) rfl (by decide) (Yld.assign rfl) ?_
  refine GO.done ?_
  refine G.seq ?_
  refine G.region ?_
  refine G.yld (by decide) (Yld.move rfl) ?_
  refine G.yld (by decide) (Yld.move rfl) ?_
  refine G.yld (by decide) (Yld.len_slice Try.runUnderlying109 rfl) ?_
  refine G.yld (by decide) (Yld.move rfl) ?_
  refine G.yld (by decide) (Yld.sliceLH Try.underlying109 Try.sizeOf121 rfl rfl rfl (by omega) (by omega) (by omega)) ?_
  rw [Int.toNat_natCast, Int.toNat_natCast, subS_lt (by omega), show rows.length - (rows.length - 1) = 1 by omega]
  refine G.op0  (OpC.clearB (kk := 2) (zc := [.int .u32 0, .int .u32 0]) Try.underlying109 Try.zeroValue121 rfl rfl rfl rfl (show Pick _ (cel true b _ _) _ from by repeat (first | with_reducible exact Pick.here | with_reducible apply Pick.there)) (by simp only [List.length_append, rowc_length, hpre, List.length_drop, List.length_eraseIdx_of_lt hi]; omega)) fun ⟨zz, hzz⟩ => ?_
  simp only at hzz ⊢
  rw [del2 (n := rows.length - 1) hpre (List.length_eraseIdx_of_lt hi) (by rw [List.length_drop, rowc_length]; omega) hzz]
  refine G.done ?_
  refine G.seq ?_
  refine G.region ?_
  refine G.yld (by decide) (Yld.move rfl) ?_
  refine G.yld (by decide) (Yld.assign rfl) ?_
  refine G.done ?_
  refine G.ret ?_
  refine G.ret1 (.inr rfl) Try.results56 (.tmp rfl) ?_
  exact ⟨_, (.ex (some ⟨b, off, none⟩, c) (.star (.lift rfl) (.imp (.pick (A := cel true b _ _) (by repeat (first | with_reducible exact Pick.here | with_reducible apply Pick.there))) (fun q h => sl_shut (pre := pre) (post := zz ++ post) hpre (by rw [rowc_length, List.length_eraseIdx_of_lt hi]) (by rw [List.length_append]; omega) (by omega) (by exact h)))))⟩
end Go.Fl
