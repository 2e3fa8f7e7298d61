/- Contracts, printed by a program of mine and proved by Lean. -/
import Derived.Test.YtogemllbdkbjkaaFlE4
import Derived.Test.YtogemllbdkbjkaaFlInH
set_option linter.unusedVariables false
set_option linter.unusedSimpArgs false
namespace Go.Fl
open Go Go.Sl Go.Proofs
set_option maxRecDepth 10000
set_option linter.unusedVariables false
theorem dL_spec {m0 : Bool} (b : Nat) (s : Sp) (ms : List Msg) (dups : List UInt32) (t : UInt32) (a0 : Option Addr) (c0 : Nat) (d : UInt8) (k : Nat) (hk : Kept k s ms) : Sl.Spec Try.prog 9 [ptr b, .agg (ckb (ckL t) (.slice a0 1 c0)).toArray].toArray [isN b s [] ms dups, sl m0 1 (.slice a0 1 c0) 1 (byc [d])]
    (fun v => star (lift (v = vI (s.add t).1)) (ex fun (x : Option Addr × Nat) => star (isN b (s.add t).2 [] (msD s ms (ckL t) (msgOf (ckL t) x.1 x.2 [d])) (dupsP dups (s.add t).1 t)) (sl m0 1 (.slice a0 1 c0) 1 (byc [d])))) := by
  have h := nData_spec (m0 := m0) b s [] ms dups (ckL t) a0 c0 [d] rfl (by simp) (by simp) (by have := hk.rows; omega) (by have := hk.len; omega) (fun m hm => by rw [hk.ones m hm]; decide) (by have := hk.held; simpa using this) (fun _ => ⟨rfl, rfl, rfl, 0, rfl, .inl rfl⟩)
  rw [show nxD s [] (ckL t) = [] by unfold nxD nxP; split <;> rfl] at h
  exact h
abbrev ckE (t : UInt32) : Ck := { kind := 64, tsn := t, beg := true }
theorem dB_spec {m0 : Bool} (b : Nat) (s : Sp) (ms : List Msg) (dups : List UInt32) (t : UInt32) (a0 : Option Addr) (c0 : Nat) (k : Nat) (hk : Kept k s ms) (hl : less s.mark t = false) : Sl.Spec Try.prog 9 [ptr b, .agg (ckb (ckE t) (.slice a0 1 c0)).toArray].toArray [isN b s [] ms dups, sl m0 1 (.slice a0 1 c0) 1 (byc [120])]
    (fun v => star (lift (v = vI 1)) (ex fun (x : Option Addr × Nat) => star (isN b s [] ms (dupsP dups 1 t)) (sl m0 1 (.slice a0 1 c0) 1 (byc [120])))) := by
  have e : s.add t = (1, s) := add_back hl
  have h := nData_spec (m0 := m0) b s [] ms dups (ckE t) a0 c0 [120] rfl (by decide) (by decide) (by have := hk.rows; omega) (by have := hk.len; omega) (fun m hm => by rw [hk.ones m hm]; decide) (by have := hk.held; simpa using this) (fun e2 => by rw [show s.add (ckE t).tsn = (1, s) from e] at e2; cases e2)
  simp only [nxD, msD, show s.add (ckE t).tsn = (1, s) from e] at h
  exact h
abbrev ckF (k : UInt8) (t : UInt32) : Ck := { kind := k, tsn := t }
theorem intakeForwards_spec (mark : UInt32) (a1 : Option Addr) (c1 : Nat) (ds : List UInt8) (hlen : ds.length ≤ 9223372036854775807) (to : UInt8) : Sl.Spec Try.prog 3 [vU32 mark, .slice a1 ds.length c1, vU8 to].toArray [sl false 1 (.slice a1 ds.length c1) ds.length (byc ds)] (fun v => lift (v = .bool true)) := by
  refine Sl.Spec.of_body (vs := [vU32 mark, .slice a1 ds.length c1, vU8 to]) Try.func3 Try.ntmps3 (Nat.le_of_ble_eq_true rfl) rfl fun w0 F => ?_
  refine G.seq ?_
  refine G.region ?_
  refine G.yld (by decide) (Yld.assign rfl) ?_
  refine G.done ?_
  refine G.seq ?_
  refine G.seq ?_
  refine G.region ?_
  refine G.opc (by decide) (OpC.call Try.call7 rfl first14_spec .nil) fun _ => ?_
  refine G.lift ?_
  rintro rfl
  refine G.yld (by decide) (Yld.not rfl) ?_
  refine G.done ?_
  refine G.condF rfl ?_
  refine G.skip ?_
  refine G.seq ?_
  refine G.region ?_
  refine G.yld (by decide) (Yld.move rfl) ?_
  refine G.opc (by decide) (OpC.call Try.call8 rfl (nNew_spec mark) .nil) fun _ => ?_
  refine G.ex fun b => ?_
  refine G.star ?_
  refine G.lift ?_
  rintro rfl
  refine G.yld (by decide) (Yld.assign rfl) ?_
  refine G.done ?_
  refine G.seq ?_
  refine G.seq ?_
  refine G.region ?_
  refine G.yld (by decide) (Yld.move rfl) ?_
  refine G.yld (by decide) (Yld.len_slice Try.runUnderlying23 rfl) ?_
  refine G.yld (by decide) (Yld.move rfl) ?_
  refine G.done ?_
  refine G.block ?_
  refine G.loopE (X := Nat × Sp × List Msg × List UInt32) (fun x => [(0, vU32 mark), (2, vU8 to), (7, ptr b), (17, .slice a1 ds.length c1), (18, vI ds.length), (19, vI x.1)]) (fun x => [lift (x.1 ≤ ds.length ∧ Kept x.1 x.2.1 x.2.2.1), isN b x.2.1 [] x.2.2.1 x.2.2.2, sl false 1 (.slice a1 ds.length c1) ds.length (byc ds)]) (fun x => ds.length - x.1) (0, ⟨mark, []⟩, [], []) (.cons (t := 0) rfl (.cons (t := 2) rfl (.cons (t := 7) rfl (.cons (t := 17) rfl (.cons (t := 18) rfl (.cons (t := 19) rfl .nil)))))) (.cons (.lift ⟨Nat.zero_le _, ⟨Nat.zero_le _, fun r hr => (by cases hr), Nat.zero_le _, fun m hm => (by cases hm)⟩⟩) (.cons (.imp (.pick (A := isN b _ _ _ _) (by repeat (first | with_reducible exact Pick.here | with_reducible apply Pick.there))) (fun r h => by exact h)) (.cons (.pick (A := sl false 1 (.slice a1 _ _) _ _) (by repeat (first | with_reducible exact Pick.here | with_reducible apply Pick.there))) .nil))) fun ⟨i, s, ms, dups⟩ => ?_
  refine G.lift fun hi => ?_
  simp only at hi
  obtain ⟨hi, hk⟩ := hi
  refine G.seq ?_
  refine G.region ?_
  refine G.yld (by decide) (Yld.lss_i rfl rfl) ?_
  refine G.done ?_
  refine G.seq ?_
  refine G.condP rfl (fun hlt => ?_) (fun hlt => ?_)
  · have hi2 : i < ds.length := by simpa using hlt
    obtain ⟨d, hd⟩ : ∃ d, ds[i]? = some d := ⟨_, List.getElem?_eq_getElem hi2⟩
    refine G.skip ?_
    refine G.seq ?_
    refine G.block ?_
    refine G.seq ?_
    refine G.region ?_
    refine G.yld (by decide) (Yld.move rfl) ?_
    refine G.yld (by decide) (Yld.indexE Try.runUnderlying23 Try.sizeOf5 rfl rfl (by repeat (first | with_reducible exact Pick.here | with_reducible apply Pick.there)) (by decide) (by omega) (by omega)) ?_
    refine G.yld (by decide) (Yld.loadE (v := vU8 d) Try.isAgg5 rfl (by repeat (first | with_reducible exact Pick.here | with_reducible apply Pick.there)) (by simp only [Int.toNat_natCast, Nat.mul_one]; exact byc_at hd)) ?_
    refine G.yld (by decide) (Yld.assign rfl) ?_
    refine G.yld (by decide) (Yld.assign rfl) ?_
    refine G.done ?_
    refine G.seq ?_
    refine G.region ?_
    refine G.yld (by decide) (Yld.move rfl) ?_
    refine G.yld (by decide) (Yld.lss_i (b := (40 : Int)) rfl rfl) ?_
    refine G.done ?_
    refine G.condP rfl (fun hc => ?_) (fun hc => ?_)
    · have hc2 : i < 40 := by simp only at hc; omega
      refine G.region ?_
      refine G.yld (by decide) (Yld.move rfl) ?_
      refine G.yld (by decide) (Yld.move rfl) ?_
      refine G.yld (by decide) (Yld.move rfl) ?_
      refine G.yld (by decide) (Yld.conv_u8_u32 Try.runUnderlying5 Try.runUnderlying22 rfl) ?_
      refine G.yld (by decide) (Yld.add_u32 rfl rfl) ?_
      refine G.yld (by decide) (Yld.move rfl) ?_
      refine G.opc (by decide) (OpC.buildOne (cs := [_]) Try.runUnderlying23 Try.sizeOf5 Try.zeroValue5 rfl rfl rfl rfl (by decide)) fun bl => ?_
      refine G.fold (A := sl true 1 (.slice (some ⟨bl, 0, none⟩) 1 1) 1 (byc [d])) (.imp (.pick (A := cel _ bl _ _) (by repeat (first | with_reducible exact Pick.here | with_reducible apply Pick.there))) (fun r h => sl_row (k := 1) (n := 1) rfl r (by exact h))) ?_
      refine G.yld (by decide) (Yld.buildS (cs := [_, _, _, _, _, _, _, _, _, _, _, _, _, _, _, _, _, _, _]) Try_z36 Try_pl36 rfl rfl (.cons rfl rfl (Nat.le_of_ble_eq_true rfl) (.cons rfl rfl (Nat.le_of_ble_eq_true rfl) (.cons rfl rfl (Nat.le_of_ble_eq_true rfl) (.cons rfl rfl (Nat.le_of_ble_eq_true rfl) (.cons rfl rfl (Nat.le_of_ble_eq_true rfl) (.cons rfl rfl (Nat.le_of_ble_eq_true rfl) .nil)))))) rfl) ?_
      refine G.opc (by decide) (OpC.call Try.call9 rfl (dL_spec b s ms dups _ _ _ d i hk) (.cons (by repeat (first | with_reducible exact Pick.here | with_reducible apply Pick.there)) (.cons (by repeat (first | with_reducible exact Pick.here | with_reducible apply Pick.there)) .nil))) fun _ => ?_
      refine G.star ?_
      refine G.lift ?_
      rintro rfl
      refine G.ex fun x => ?_
      refine G.star ?_
      obtain ⟨ma, mc⟩ := x
      refine G.done ?_
      refine G.nil ?_
      refine G.x_block (G.x_then ?_)
      refine G.region ?_
      refine G.yld (by decide) (Yld.add_i (b := (1 : Int)) rfl rfl (by omega)) ?_
      refine G.yld (by decide) (Yld.move rfl) ?_
      refine G.done ?_
      refine G.nil ?_
      refine G.x_then ?_
      exact G.againE (i + 1, (s.add (mark + d.toUInt32)).2, msD s ms (ckL (mark + d.toUInt32)) (msgOf (ckL (mark + d.toUInt32)) ma mc [d]), dupsP dups (s.add (mark + d.toUInt32)).1 (mark + d.toUInt32)) (by simp only; omega) (.cons (t := 0) rfl (.cons (t := 2) rfl (.cons (t := 7) rfl (.cons (t := 17) rfl (.cons (t := 18) rfl (.cons (t := 19) rfl .nil)))))) (.cons (.lift ⟨by simp only; omega, hk.step hc2 (mark + d.toUInt32) ma mc d⟩) (.cons (.imp (.pick (A := isN b _ _ _ _) (by repeat (first | with_reducible exact Pick.here | with_reducible apply Pick.there))) (fun r h => by exact h)) (.cons (.pick (A := sl false 1 (.slice a1 _ _) _ _) (by repeat (first | with_reducible exact Pick.here | with_reducible apply Pick.there))) .nil)))
    · refine G.skip ?_
      refine G.nil ?_
      refine G.x_block (G.x_then ?_)
      refine G.region ?_
      refine G.yld (by decide) (Yld.add_i (b := (1 : Int)) rfl rfl (by omega)) ?_
      refine G.yld (by decide) (Yld.move rfl) ?_
      refine G.done ?_
      refine G.nil ?_
      refine G.x_then ?_
      exact G.againE (i + 1, s, ms, dups) (by simp only; omega) (.cons (t := 0) rfl (.cons (t := 2) rfl (.cons (t := 7) rfl (.cons (t := 17) rfl (.cons (t := 18) rfl (.cons (t := 19) rfl .nil)))))) (.cons (.lift ⟨by simp only; omega, hk.idle⟩) (.cons (.imp (.pick (A := isN b _ _ _ _) (by repeat (first | with_reducible exact Pick.here | with_reducible apply Pick.there))) (fun r h => by exact h)) (.cons (.pick (A := sl false 1 (.slice a1 _ _) _ _) (by repeat (first | with_reducible exact Pick.here | with_reducible apply Pick.there))) .nil)))
  · clear hlt hi
    obtain ⟨t, ht⟩ : ∃ t, mark + to.toUInt32 = t := ⟨_, rfl⟩
    refine G.exit ?_
    refine G.x_exit_then (G.x_exit_then ?_)
    refine G.x_exit_block (G.x_then ?_)
    refine G.unframe (by repeat (first | exact App.nil | apply App.cons)) ?_
    refine G.seq ?_
    refine G.region ?_
    refine G.yld (by decide) (Yld.move rfl) ?_
    refine G.yld (by decide) (Yld.move rfl) ?_
    refine G.yld (by decide) (Yld.conv_u8_u32 Try.runUnderlying5 Try.runUnderlying22 rfl) ?_
    refine G.yld (by decide) (Yld.add_u32 rfl rfl) ?_
    rw [ht]
    refine G.yld (by decide) (Yld.assign rfl) ?_
    refine G.done ?_
    refine G.seq ?_
    refine G.region ?_
    refine G.yld (by decide) (Yld.move rfl) ?_
    refine G.opc (by decide) (OpC.call Try.call10 rfl (nMark_spec b s [] ms dups) (.cons (by repeat (first | with_reducible exact Pick.here | with_reducible apply Pick.there)) .nil)) fun _ => ?_
    refine G.star ?_
    refine G.lift ?_
    rintro rfl
    refine G.yld (by decide) (Yld.assign rfl) ?_
    refine G.done ?_
    refine G.seq ?_
    refine G.region ?_
    refine G.yld (by decide) (Yld.move rfl) ?_
    refine G.yld (by decide) (Yld.move rfl) ?_
    refine G.yld (by decide) (Yld.buildS (cs := [_, _, _, _, _, _, _, _, _, _, _, _, _, _, _, _, _, _, _]) Try_z36 Try_pl36 rfl rfl (.cons rfl rfl (Nat.le_of_ble_eq_true rfl) (.cons rfl rfl (Nat.le_of_ble_eq_true rfl) .nil)) rfl) ?_
    refine G.opc (by decide) (OpC.call Try.call11 rfl (nForward_spec b s [] ms dups (ckF 194 t) (by have := hk.rows; omega)) (.cons (by repeat (first | with_reducible exact Pick.here | with_reducible apply Pick.there)) .nil)) fun _ => ?_
    refine G.star ?_
    refine G.lift ?_
    rintro rfl
    refine G.yld (by decide) (Yld.assign rfl) ?_
    refine G.done ?_
    refine G.seq ?_
    refine G.seq ?_
    by_cases hl : less s.mark t = true
    · have hf : fwdB s (ckF 194 t) = true := by simp [fwdB, hl]
      have hs : fwdS s (ckF 194 t) = (s.skip t).2 := by simp [fwdS, hf]
      obtain ⟨hb1, hb2⟩ := skip_far hl hk.small
      obtain ⟨hy1, hy2⟩ := less_yes hl
      rw [← hs] at hb1 hb2
      obtain ⟨s', hs'⟩ : ∃ s', fwdS s (ckF 194 t) = s' := ⟨_, rfl⟩
      rw [hs'] at hb1 hb2 ⊢
      have hk' : Kept i s' ms := by rw [← hs', hs]; exact hk.skip t
      refine G.region ?_
      refine G.yld (by decide) (Yld.move rfl) ?_
      refine G.as (t := 46) (v := .bool true) rfl (congrArg Value.bool hf) ?_
      refine G.yld (by decide) (Yld.move rfl) ?_
      refine G.yld (by decide) (Yld.move rfl) ?_
      refine G.yld (by decide) (Yld.sub_u32 rfl rfl) ?_
      refine G.yld (by decide) (Yld.lss_u32 (b := (2147483648 : UInt32)) rfl rfl) ?_
      refine G.as (t := 50) (v := .bool true) rfl (congrArg Value.bool (decide_eq_true hy1)) ?_
      refine G.yld (by decide) (Yld.move rfl) ?_
      refine G.yldG (by decide) rfl rfl (Yld.move rfl) ?_
      refine G.yldG (by decide) rfl rfl (Yld.move rfl) ?_
      refine G.yldG (by decide) rfl rfl (Yld.neq_u32 rfl rfl) ?_
      refine G.as (t := 54) (v := .bool true) rfl (congrArg Value.bool (decide_eq_true hy2)) ?_
      refine G.yld (by decide) (Yld.pickT rfl rfl) ?_
      refine G.yld (by decide) (Yld.neq_b Try.underlying4 rfl rfl) ?_
      refine G.as (t := 56) (v := .bool false) rfl (congrArg Value.bool (decide_eq_false (by simp))) ?_
      refine G.yld (by decide) (Yld.move rfl) ?_
      refine G.yldG (by decide) rfl rfl (Yld.move rfl) ?_
      refine G.as (t := 58) (v := .bool true) rfl (congrArg Value.bool hf) ?_
      refine G.yldG (by decide) rfl rfl (Yld.move rfl) ?_
      refine G.yldG (by decide) rfl rfl (Yld.move rfl) ?_
      refine G.opG (by decide) rfl rfl (OpC.call Try.call10 rfl (nMark_spec b s' [] ms dups) (.cons (by repeat (first | with_reducible exact Pick.here | with_reducible apply Pick.there)) .nil)) fun _ => ?_
      refine G.star ?_
      refine G.lift ?_
      rintro rfl
      refine G.yldG (by decide) rfl rfl (Yld.move rfl) ?_
      refine G.yldG (by decide) rfl rfl (Yld.sub_u32 rfl rfl) ?_
      refine G.yldG (by decide) rfl rfl (Yld.geq_u32 (b := (2147483648 : UInt32)) rfl rfl) ?_
      refine G.as (t := 64) (v := .bool false) rfl (congrArg Value.bool (decide_eq_false (by simpa using hb2))) ?_
      refine G.yldG (by decide) rfl rfl (Yld.pickT rfl rfl) ?_
      refine G.yld (by decide) (Yld.pickF rfl rfl) ?_
      refine G.yld (by decide) (Yld.move rfl) ?_
      refine G.yldG (by decide) rfl rfl (Yld.move rfl) ?_
      refine G.as (t := 68) (v := .bool true) rfl (congrArg Value.bool hf) ?_
      refine G.yldG (by decide) rfl rfl (Yld.not rfl) ?_
      refine G.yldG (by decide) rfl rfl (Yld.move rfl) ?_
      refine G.skipG (by decide) rfl rfl rfl ?_
      refine G.skipG (by decide) rfl rfl rfl ?_
      refine G.skipG (by decide) rfl rfl rfl ?_
      refine G.skipG (by decide) rfl rfl rfl ?_
      refine G.yldG (by decide) rfl rfl (Yld.pickF rfl rfl) ?_
      refine G.yld (by decide) (Yld.pickF rfl rfl) ?_
      refine G.done ?_
      refine G.condF rfl ?_
      refine G.skip ?_
      refine G.seq ?_
      refine G.region ?_
      refine G.yld (by decide) (Yld.move rfl) ?_
      refine G.yld (by decide) (Yld.move rfl) ?_
      refine G.opc (by decide) (OpC.buildOne (cs := [_]) Try.runUnderlying23 Try.sizeOf5 Try.zeroValue5 rfl rfl rfl rfl (by decide)) fun bl => ?_
      refine G.opc (by decide) (OpC.convBytes Try.underlying23 Try.underlying5 rfl (by repeat (first | with_reducible exact Pick.here | with_reducible apply Pick.there))) fun _ => ?_
      refine G.fold (A := sl false 1 (.slice (some ⟨bl, 0, none⟩) 1 1) 1 (byc [120])) (.imp (.pick (A := cel _ bl _ _) (by repeat (first | with_reducible exact Pick.here | with_reducible apply Pick.there))) (fun r h => sl_row (k := 1) (n := 1) rfl r (by exact h))) ?_
      refine G.yld (by decide) (Yld.buildS (cs := [_, _, _, _, _, _, _, _, _, _, _, _, _, _, _, _, _, _, _]) Try_z36 Try_pl36 rfl rfl (.cons rfl rfl (Nat.le_of_ble_eq_true rfl) (.cons rfl rfl (Nat.le_of_ble_eq_true rfl) (.cons rfl rfl (Nat.le_of_ble_eq_true rfl) (.cons rfl rfl (Nat.le_of_ble_eq_true rfl) .nil)))) rfl) ?_
      refine G.opc (by decide) (OpC.call Try.call9 rfl (dB_spec b s' ms dups t _ _ _ hk' hb1) (.cons (by repeat (first | with_reducible exact Pick.here | with_reducible apply Pick.there)) (.cons (by repeat (first | with_reducible exact Pick.here | with_reducible apply Pick.there)) .nil))) fun _ => ?_
      refine G.star ?_
      refine G.lift ?_
      rintro rfl
      refine G.ex fun x => ?_
      refine G.star ?_
      refine G.yld (by decide) (Yld.eql_i (b := (1 : Int)) rfl rfl) ?_
      refine G.as (t := 83) (v := .bool true) rfl (congrArg Value.bool (decide_eq_true rfl)) ?_
      refine G.yld (by decide) (Yld.move rfl) ?_
      refine G.yldG (by decide) rfl rfl (Yld.move rfl) ?_
      refine G.yldG (by decide) rfl rfl (Yld.move rfl) ?_
      refine G.yldG (by decide) rfl rfl (Yld.buildS (cs := [_, _, _, _, _, _, _, _, _, _, _, _, _, _, _, _, _, _, _]) Try_z36 Try_pl36 rfl rfl (.cons rfl rfl (Nat.le_of_ble_eq_true rfl) (.cons rfl rfl (Nat.le_of_ble_eq_true rfl) .nil)) rfl) ?_
      refine G.opG (by decide) rfl rfl (OpC.call Try.call11 rfl (nForward_spec b s' [] ms _ (ckF 194 t) (by have := hk'.rows; omega)) (.cons (by repeat (first | with_reducible exact Pick.here | with_reducible apply Pick.there)) .nil)) fun _ => ?_
      refine G.star ?_
      refine G.lift ?_
      rintro rfl
      rw [show fwdB s' (ckF 194 t) = false by simp [fwdB, hb1], show fwdS s' (ckF 194 t) = s' by simp [fwdS, fwdB, hb1]]
      refine G.yldG (by decide) rfl rfl (Yld.not rfl) ?_
      refine G.yld (by decide) (Yld.pickT rfl rfl) ?_
      refine G.yld (by decide) (Yld.move rfl) ?_
      refine G.yldG (by decide) rfl rfl (Yld.move rfl) ?_
      refine G.yldG (by decide) rfl rfl (Yld.move rfl) ?_
      refine G.yldG (by decide) rfl rfl (Yld.add_u32 (b := (500 : UInt32)) rfl rfl) ?_
      refine G.yldG (by decide) rfl rfl (Yld.buildS (cs := [_, _, _, _, _, _, _, _, _, _, _, _, _, _, _, _, _, _, _]) Try_z36 Try_pl36 rfl rfl (.cons rfl rfl (Nat.le_of_ble_eq_true rfl) (.cons rfl rfl (Nat.le_of_ble_eq_true rfl) .nil)) rfl) ?_
      refine G.opG (by decide) rfl rfl (OpC.call Try.call11 rfl (nForward_spec b s' [] ms _ (ckF 192 (t + 500)) (by have := hk'.rows; omega)) (.cons (by repeat (first | with_reducible exact Pick.here | with_reducible apply Pick.there)) .nil)) fun _ => ?_
      refine G.star ?_
      refine G.lift ?_
      rintro rfl
      rw [show fwdB s' (ckF 192 (t + 500)) = false by simp [fwdB]]
      refine G.yldG (by decide) rfl rfl (Yld.not rfl) ?_
      refine G.yld (by decide) (Yld.pickT rfl rfl) ?_
      refine G.yld (by decide) (Yld.assign rfl) ?_
      refine G.done ?_
      refine G.ret ?_
      refine G.ret1 (.inr rfl) Try.results3 (.tmp rfl) ?_
      exact ⟨_, (.lift rfl)⟩
    · have hl2 : less s.mark t = false := by simpa using hl
      have hb1 := hl2
      have hf : fwdB s (ckF 194 t) = false := by simp [fwdB, hl2]
      rw [show fwdS s (ckF 194 t) = s by simp [fwdS, hf]]
      by_cases htm : t = s.mark
      · refine G.region ?_
        refine G.yld (by decide) (Yld.move rfl) ?_
        refine G.as (t := 46) (v := .bool false) rfl (congrArg Value.bool hf) ?_
        refine G.yld (by decide) (Yld.move rfl) ?_
        refine G.yld (by decide) (Yld.move rfl) ?_
        refine G.yld (by decide) (Yld.sub_u32 rfl rfl) ?_
        refine G.yld (by decide) (Yld.lss_u32 (b := (2147483648 : UInt32)) rfl rfl) ?_
        refine G.as (t := 50) (v := .bool true) rfl (congrArg Value.bool (decide_eq_true (by rw [htm]; simp))) ?_
        refine G.yld (by decide) (Yld.move rfl) ?_
        refine G.yldG (by decide) rfl rfl (Yld.move rfl) ?_
        refine G.yldG (by decide) rfl rfl (Yld.move rfl) ?_
        refine G.yldG (by decide) rfl rfl (Yld.neq_u32 rfl rfl) ?_
        refine G.as (t := 54) (v := .bool false) rfl (congrArg Value.bool (decide_eq_false (by simpa using htm))) ?_
        refine G.yld (by decide) (Yld.pickT rfl rfl) ?_
        refine G.yld (by decide) (Yld.neq_b Try.underlying4 rfl rfl) ?_
        refine G.as (t := 56) (v := .bool false) rfl (congrArg Value.bool (decide_eq_false (by simp))) ?_
        refine G.yld (by decide) (Yld.move rfl) ?_
        refine G.yldG (by decide) rfl rfl (Yld.move rfl) ?_
        refine G.as (t := 58) (v := .bool false) rfl (congrArg Value.bool hf) ?_
        refine G.yldG (by decide) rfl rfl (Yld.move rfl) ?_
        refine G.skipG (by decide) rfl rfl rfl ?_
        refine G.skipG (by decide) rfl rfl rfl ?_
        refine G.skipG (by decide) rfl rfl rfl ?_
        refine G.skipG (by decide) rfl rfl rfl ?_
        refine G.skipG (by decide) rfl rfl rfl ?_
        refine G.yldG (by decide) rfl rfl (Yld.pickF rfl rfl) ?_
        refine G.yld (by decide) (Yld.pickF rfl rfl) ?_
        refine G.yld (by decide) (Yld.move rfl) ?_
        refine G.yldG (by decide) rfl rfl (Yld.move rfl) ?_
        refine G.as (t := 68) (v := .bool false) rfl (congrArg Value.bool hf) ?_
        refine G.yldG (by decide) rfl rfl (Yld.not rfl) ?_
        refine G.yldG (by decide) rfl rfl (Yld.move rfl) ?_
        refine G.yldG (by decide) rfl rfl (Yld.move rfl) ?_
        refine G.opG (by decide) rfl rfl (OpC.call Try.call10 rfl (nMark_spec b s [] ms dups) (.cons (by repeat (first | with_reducible exact Pick.here | with_reducible apply Pick.there)) .nil)) fun _ => ?_
        refine G.star ?_
        refine G.lift ?_
        rintro rfl
        refine G.yldG (by decide) rfl rfl (Yld.move rfl) ?_
        refine G.yldG (by decide) rfl rfl (Yld.neq_u32 rfl rfl) ?_
        refine G.as (t := 74) (v := .bool false) rfl (congrArg Value.bool (decide_eq_false (by simp))) ?_
        refine G.yldG (by decide) rfl rfl (Yld.pickT rfl rfl) ?_
        refine G.yld (by decide) (Yld.pickF rfl rfl) ?_
        refine G.done ?_
        refine G.condF rfl ?_
        refine G.skip ?_
        refine G.seq ?_
        refine G.region ?_
        refine G.yld (by decide) (Yld.move rfl) ?_
        refine G.yld (by decide) (Yld.move rfl) ?_
        refine G.opc (by decide) (OpC.buildOne (cs := [_]) Try.runUnderlying23 Try.sizeOf5 Try.zeroValue5 rfl rfl rfl rfl (by decide)) fun bl => ?_
        refine G.opc (by decide) (OpC.convBytes Try.underlying23 Try.underlying5 rfl (by repeat (first | with_reducible exact Pick.here | with_reducible apply Pick.there))) fun _ => ?_
        refine G.fold (A := sl false 1 (.slice (some ⟨bl, 0, none⟩) 1 1) 1 (byc [120])) (.imp (.pick (A := cel _ bl _ _) (by repeat (first | with_reducible exact Pick.here | with_reducible apply Pick.there))) (fun r h => sl_row (k := 1) (n := 1) rfl r (by exact h))) ?_
        refine G.yld (by decide) (Yld.buildS (cs := [_, _, _, _, _, _, _, _, _, _, _, _, _, _, _, _, _, _, _]) Try_z36 Try_pl36 rfl rfl (.cons rfl rfl (Nat.le_of_ble_eq_true rfl) (.cons rfl rfl (Nat.le_of_ble_eq_true rfl) (.cons rfl rfl (Nat.le_of_ble_eq_true rfl) (.cons rfl rfl (Nat.le_of_ble_eq_true rfl) .nil)))) rfl) ?_
        refine G.opc (by decide) (OpC.call Try.call9 rfl (dB_spec b s ms dups t _ _ _ hk hb1) (.cons (by repeat (first | with_reducible exact Pick.here | with_reducible apply Pick.there)) (.cons (by repeat (first | with_reducible exact Pick.here | with_reducible apply Pick.there)) .nil))) fun _ => ?_
        refine G.star ?_
        refine G.lift ?_
        rintro rfl
        refine G.ex fun x => ?_
        refine G.star ?_
        refine G.yld (by decide) (Yld.eql_i (b := (1 : Int)) rfl rfl) ?_
        refine G.as (t := 83) (v := .bool true) rfl (congrArg Value.bool (decide_eq_true rfl)) ?_
        refine G.yld (by decide) (Yld.move rfl) ?_
        refine G.yldG (by decide) rfl rfl (Yld.move rfl) ?_
        refine G.yldG (by decide) rfl rfl (Yld.move rfl) ?_
        refine G.yldG (by decide) rfl rfl (Yld.buildS (cs := [_, _, _, _, _, _, _, _, _, _, _, _, _, _, _, _, _, _, _]) Try_z36 Try_pl36 rfl rfl (.cons rfl rfl (Nat.le_of_ble_eq_true rfl) (.cons rfl rfl (Nat.le_of_ble_eq_true rfl) .nil)) rfl) ?_
        refine G.opG (by decide) rfl rfl (OpC.call Try.call11 rfl (nForward_spec b s [] ms _ (ckF 194 t) (by have := hk.rows; omega)) (.cons (by repeat (first | with_reducible exact Pick.here | with_reducible apply Pick.there)) .nil)) fun _ => ?_
        refine G.star ?_
        refine G.lift ?_
        rintro rfl
        rw [show fwdB s (ckF 194 t) = false by simp [fwdB, hb1], show fwdS s (ckF 194 t) = s by simp [fwdS, fwdB, hb1]]
        refine G.yldG (by decide) rfl rfl (Yld.not rfl) ?_
        refine G.yld (by decide) (Yld.pickT rfl rfl) ?_
        refine G.yld (by decide) (Yld.move rfl) ?_
        refine G.yldG (by decide) rfl rfl (Yld.move rfl) ?_
        refine G.yldG (by decide) rfl rfl (Yld.move rfl) ?_
        refine G.yldG (by decide) rfl rfl (Yld.add_u32 (b := (500 : UInt32)) rfl rfl) ?_
        refine G.yldG (by decide) rfl rfl (Yld.buildS (cs := [_, _, _, _, _, _, _, _, _, _, _, _, _, _, _, _, _, _, _]) Try_z36 Try_pl36 rfl rfl (.cons rfl rfl (Nat.le_of_ble_eq_true rfl) (.cons rfl rfl (Nat.le_of_ble_eq_true rfl) .nil)) rfl) ?_
        refine G.opG (by decide) rfl rfl (OpC.call Try.call11 rfl (nForward_spec b s [] ms _ (ckF 192 (t + 500)) (by have := hk.rows; omega)) (.cons (by repeat (first | with_reducible exact Pick.here | with_reducible apply Pick.there)) .nil)) fun _ => ?_
        refine G.star ?_
        refine G.lift ?_
        rintro rfl
        rw [show fwdB s (ckF 192 (t + 500)) = false by simp [fwdB]]
        refine G.yldG (by decide) rfl rfl (Yld.not rfl) ?_
        refine G.yld (by decide) (Yld.pickT rfl rfl) ?_
        refine G.yld (by decide) (Yld.assign rfl) ?_
        refine G.done ?_
        refine G.ret ?_
        refine G.ret1 (.inr rfl) Try.results3 (.tmp rfl) ?_
        exact ⟨_, (.lift rfl)⟩
      · refine G.region ?_
        refine G.yld (by decide) (Yld.move rfl) ?_
        refine G.as (t := 46) (v := .bool false) rfl (congrArg Value.bool hf) ?_
        refine G.yld (by decide) (Yld.move rfl) ?_
        refine G.yld (by decide) (Yld.move rfl) ?_
        refine G.yld (by decide) (Yld.sub_u32 rfl rfl) ?_
        refine G.yld (by decide) (Yld.lss_u32 (b := (2147483648 : UInt32)) rfl rfl) ?_
        refine G.as (t := 50) (v := .bool false) rfl (congrArg Value.bool (decide_eq_false (less_no hl2 htm))) ?_
        refine G.yld (by decide) (Yld.move rfl) ?_
        refine G.skipG (by decide) rfl rfl rfl ?_
        refine G.skipG (by decide) rfl rfl rfl ?_
        refine G.skipG (by decide) rfl rfl rfl ?_
        refine G.yld (by decide) (Yld.pickF rfl rfl) ?_
        refine G.yld (by decide) (Yld.neq_b Try.underlying4 rfl rfl) ?_
        refine G.as (t := 56) (v := .bool false) rfl (congrArg Value.bool (decide_eq_false (by simp))) ?_
        refine G.yld (by decide) (Yld.move rfl) ?_
        refine G.yldG (by decide) rfl rfl (Yld.move rfl) ?_
        refine G.as (t := 58) (v := .bool false) rfl (congrArg Value.bool hf) ?_
        refine G.yldG (by decide) rfl rfl (Yld.move rfl) ?_
        refine G.skipG (by decide) rfl rfl rfl ?_
        refine G.skipG (by decide) rfl rfl rfl ?_
        refine G.skipG (by decide) rfl rfl rfl ?_
        refine G.skipG (by decide) rfl rfl rfl ?_
        refine G.skipG (by decide) rfl rfl rfl ?_
        refine G.yldG (by decide) rfl rfl (Yld.pickF rfl rfl) ?_
        refine G.yld (by decide) (Yld.pickF rfl rfl) ?_
        refine G.yld (by decide) (Yld.move rfl) ?_
        refine G.yldG (by decide) rfl rfl (Yld.move rfl) ?_
        refine G.as (t := 68) (v := .bool false) rfl (congrArg Value.bool hf) ?_
        refine G.yldG (by decide) rfl rfl (Yld.not rfl) ?_
        refine G.yldG (by decide) rfl rfl (Yld.move rfl) ?_
        refine G.yldG (by decide) rfl rfl (Yld.move rfl) ?_
        refine G.opG (by decide) rfl rfl (OpC.call Try.call10 rfl (nMark_spec b s [] ms dups) (.cons (by repeat (first | with_reducible exact Pick.here | with_reducible apply Pick.there)) .nil)) fun _ => ?_
        refine G.star ?_
        refine G.lift ?_
        rintro rfl
        refine G.yldG (by decide) rfl rfl (Yld.move rfl) ?_
        refine G.yldG (by decide) rfl rfl (Yld.neq_u32 rfl rfl) ?_
        refine G.as (t := 74) (v := .bool false) rfl (congrArg Value.bool (decide_eq_false (by simp))) ?_
        refine G.yldG (by decide) rfl rfl (Yld.pickT rfl rfl) ?_
        refine G.yld (by decide) (Yld.pickF rfl rfl) ?_
        refine G.done ?_
        refine G.condF rfl ?_
        refine G.skip ?_
        refine G.seq ?_
        refine G.region ?_
        refine G.yld (by decide) (Yld.move rfl) ?_
        refine G.yld (by decide) (Yld.move rfl) ?_
        refine G.opc (by decide) (OpC.buildOne (cs := [_]) Try.runUnderlying23 Try.sizeOf5 Try.zeroValue5 rfl rfl rfl rfl (by decide)) fun bl => ?_
        refine G.opc (by decide) (OpC.convBytes Try.underlying23 Try.underlying5 rfl (by repeat (first | with_reducible exact Pick.here | with_reducible apply Pick.there))) fun _ => ?_
        refine G.fold (A := sl false 1 (.slice (some ⟨bl, 0, none⟩) 1 1) 1 (byc [120])) (.imp (.pick (A := cel _ bl _ _) (by repeat (first | with_reducible exact Pick.here | with_reducible apply Pick.there))) (fun r h => sl_row (k := 1) (n := 1) rfl r (by exact h))) ?_
        refine G.yld (by decide) (Yld.buildS (cs := [_, _, _, _, _, _, _, _, _, _, _, _, _, _, _, _, _, _, _]) Try_z36 Try_pl36 rfl rfl (.cons rfl rfl (Nat.le_of_ble_eq_true rfl) (.cons rfl rfl (Nat.le_of_ble_eq_true rfl) (.cons rfl rfl (Nat.le_of_ble_eq_true rfl) (.cons rfl rfl (Nat.le_of_ble_eq_true rfl) .nil)))) rfl) ?_
        refine G.opc (by decide) (OpC.call Try.call9 rfl (dB_spec b s ms dups t _ _ _ hk hb1) (.cons (by repeat (first | with_reducible exact Pick.here | with_reducible apply Pick.there)) (.cons (by repeat (first | with_reducible exact Pick.here | with_reducible apply Pick.there)) .nil))) fun _ => ?_
        refine G.star ?_
        refine G.lift ?_
        rintro rfl
        refine G.ex fun x => ?_
        refine G.star ?_
        refine G.yld (by decide) (Yld.eql_i (b := (1 : Int)) rfl rfl) ?_
        refine G.as (t := 83) (v := .bool true) rfl (congrArg Value.bool (decide_eq_true rfl)) ?_
        refine G.yld (by decide) (Yld.move rfl) ?_
        refine G.yldG (by decide) rfl rfl (Yld.move rfl) ?_
        refine G.yldG (by decide) rfl rfl (Yld.move rfl) ?_
        refine G.yldG (by decide) rfl rfl (Yld.buildS (cs := [_, _, _, _, _, _, _, _, _, _, _, _, _, _, _, _, _, _, _]) Try_z36 Try_pl36 rfl rfl (.cons rfl rfl (Nat.le_of_ble_eq_true rfl) (.cons rfl rfl (Nat.le_of_ble_eq_true rfl) .nil)) rfl) ?_
        refine G.opG (by decide) rfl rfl (OpC.call Try.call11 rfl (nForward_spec b s [] ms _ (ckF 194 t) (by have := hk.rows; omega)) (.cons (by repeat (first | with_reducible exact Pick.here | with_reducible apply Pick.there)) .nil)) fun _ => ?_
        refine G.star ?_
        refine G.lift ?_
        rintro rfl
        rw [show fwdB s (ckF 194 t) = false by simp [fwdB, hb1], show fwdS s (ckF 194 t) = s by simp [fwdS, fwdB, hb1]]
        refine G.yldG (by decide) rfl rfl (Yld.not rfl) ?_
        refine G.yld (by decide) (Yld.pickT rfl rfl) ?_
        refine G.yld (by decide) (Yld.move rfl) ?_
        refine G.yldG (by decide) rfl rfl (Yld.move rfl) ?_
        refine G.yldG (by decide) rfl rfl (Yld.move rfl) ?_
        refine G.yldG (by decide) rfl rfl (Yld.add_u32 (b := (500 : UInt32)) rfl rfl) ?_
        refine G.yldG (by decide) rfl rfl (Yld.buildS (cs := [_, _, _, _, _, _, _, _, _, _, _, _, _, _, _, _, _, _, _]) Try_z36 Try_pl36 rfl rfl (.cons rfl rfl (Nat.le_of_ble_eq_true rfl) (.cons rfl rfl (Nat.le_of_ble_eq_true rfl) .nil)) rfl) ?_
        refine G.opG (by decide) rfl rfl (OpC.call Try.call11 rfl (nForward_spec b s [] ms _ (ckF 192 (t + 500)) (by have := hk.rows; omega)) (.cons (by repeat (first | with_reducible exact Pick.here | with_reducible apply Pick.there)) .nil)) fun _ => ?_
        refine G.star ?_
        refine G.lift ?_
        rintro rfl
        rw [show fwdB s (ckF 192 (t + 500)) = false by simp [fwdB]]
        refine G.yldG (by decide) rfl rfl (Yld.not rfl) ?_
        refine G.yld (by decide) (Yld.pickT rfl rfl) ?_
        refine G.yld (by decide) (Yld.assign rfl) ?_
        refine G.done ?_
        refine G.ret ?_
        refine G.ret1 (.inr rfl) Try.results3 (.tmp rfl) ?_
        exact ⟨_, (.lift rfl)⟩
end Go.Fl
