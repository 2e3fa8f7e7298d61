/- Contracts, printed by a program of mine and proved by Lean. -/
import Derived.Test.YtogemllbdkbjkaaFlE2
import Derived.Test.YtogemllbdkbjkaaFlE3
set_option linter.unusedVariables false
set_option linter.unusedSimpArgs false
namespace Go.Fl
open Go Go.Sl Go.Proofs
set_option maxRecDepth 10000
set_option linter.unusedVariables false
deriving instance DecidableEq for Sp
def c1 : Ck := { kind := 64, tsn := 11, beg := true, fin := true }
abbrev S0 : Sp := ⟨9, []⟩
def S1 : Sp := ⟨9, [(2, 2)]⟩
theorem add1 : S0.add 11 = (0, S1) := by decide +kernel
theorem add2 : S1.add 11 = (1, S1) := by decide +kernel
abbrev one (a0 : Option Addr) (c0 : Nat) : HProp := sl false 1 (.slice a0 1 c0) 1 (byc [120])
abbrev m1 (a : Option Addr) (c : Nat) : Msg := msgOf c1 a c [120]
theorem d1_spec (b : Nat) (a0 : Option Addr) (c0 : Nat) : Sl.Spec Try.prog 9 [ptr b, .agg (ckb c1 (.slice a0 1 c0)).toArray].toArray [isN b S0 [] [] [], one a0 c0] (fun v => star (lift (v = vI 0)) (ex fun (x : Option Addr × Nat) => star (isN b S1 (nxP [] c1) [m1 x.1 x.2] []) (one a0 c0))) := by
  have h := nData_spec (m0 := false) b S0 [] [] [] c1 a0 c0 [120] rfl (by decide) (by decide) (by decide) (by decide) (by simp) (by decide) (fun _ => ⟨rfl, rfl, rfl, 0, rfl, .inr ⟨rfl, rfl⟩⟩)
  simp only [nxD, msD, show S0.add c1.tsn = (0, S1) from add1] at h
  exact h
theorem d2_spec (b : Nat) (a0 : Option Addr) (c0 : Nat) (a1 : Option Addr) (k1 : Nat) : Sl.Spec Try.prog 9 [ptr b, .agg (ckb c1 (.slice a0 1 c0)).toArray].toArray [isN b S1 (nxP [] c1) [m1 a1 k1] [], one a0 c0] (fun v => star (lift (v = vI 1)) (ex fun (x : Option Addr × Nat) => star (isN b S1 (nxP [] c1) [m1 a1 k1] [11]) (one a0 c0))) := by
  have h := nData_spec (m0 := false) b S1 (nxP [] c1) [m1 a1 k1] [] c1 a0 c0 [120] rfl (by decide) (by decide) (by decide) (by simp) (fun m hm => by rw [List.mem_singleton.1 hm]; simp [m1, msgOf]) (by simp [heldM, m1, msgOf]) (fun e => by rw [show S1.add c1.tsn = (1, S1) from add2] at e; cases e)
  simp only [nxD, msD, show S1.add c1.tsn = (1, S1) from add2] at h
  exact h
theorem s1_spec (b : Nat) (a1 : Option Addr) (k1 : Nat) (nx : List (Int × Value)) (dups : List UInt32) (hd : dups.length ≤ 1) (ms : List Msg) (hms : ms = [m1 a1 k1] ∨ ms = []) : Sl.Spec Try.prog 21 [ptr b].toArray [isN b S1 nx ms dups]
    (fun v => ex fun (x : Option Addr × Nat × Option Addr × Nat) => star (lift (v = .agg (ckv (ckS S1 ms) (.slice x.1 1 x.2.1) (.slice x.2.2.1 dups.length x.2.2.2) nilS nilS nilS).toArray)) (star (isN b S1 nx ms []) (star (gapA S1 x.1 x.2.1) (sl true 1 (.slice x.2.2.1 dups.length x.2.2.2) dups.length (du dups))))) :=
  nSack_spec b S1 nx ms dups (by decide) (by rcases hms with rfl | rfl <;> simp) (fun m hm => by rcases hms with rfl | rfl <;> simp at hm; subst hm; simp [m1, msgOf]) (by omega)
theorem first14_spec  : Sl.Spec Try.prog 7 [].toArray [] (fun v => lift (v = .bool true)) := by
  refine Sl.Spec.of_body (vs := []) Try.func7 Try.ntmps7 (Nat.le_of_ble_eq_true rfl) rfl fun w0 F => ?_
  refine G.seq ?_
  refine G.region ?_
  refine G.yld (by decide) (Yld.assign rfl) ?_
  refine G.done ?_
  refine G.seq ?_
  refine G.region ?_
  refine G.opc (by decide) (OpC.call Try.call8 rfl (nNew_spec 9) .nil) fun _ => ?_
  refine G.ex fun b => ?_
  refine G.star ?_
  refine G.lift ?_
  rintro rfl
  refine G.yld (by decide) (Yld.assign rfl) ?_
  refine G.done ?_
  refine G.seq ?_
  refine G.seq ?_
  refine G.region ?_
  refine G.yld (by decide) (Yld.move rfl) ?_
  refine G.yld (by decide) (Yld.eqlNil_ptr Try.underlying25 rfl) ?_
  refine G.done ?_
  refine G.condF rfl ?_
  refine G.skip ?_
  refine G.seq ?_
  refine G.region ?_
  refine G.opc (by decide) (OpC.buildOne (cs := [_]) Try.runUnderlying23 Try.sizeOf5 Try.zeroValue5 rfl rfl rfl rfl (by decide)) fun bl => ?_
  refine G.opc (by decide) (OpC.convBytes Try.underlying23 Try.underlying5 rfl (by repeat (first | with_reducible exact Pick.here | with_reducible apply Pick.there))) fun _ => ?_
  refine G.fold (A := sl false 1 (.slice (some ⟨bl, 0, none⟩) 1 1) 1 (byc [120])) (.imp (.pick (A := cel _ bl _ _) (by repeat (first | with_reducible exact Pick.here | with_reducible apply Pick.there))) (fun r h => sl_row (k := 1) (n := 1) rfl r (by exact h))) ?_
  refine G.yld (by decide) (Yld.buildS (cs := [_, _, _, _, _, _, _, _, _, _, _, _, _, _, _, _, _, _, _]) Try_z36 Try_pl36 rfl rfl (.cons rfl rfl (Nat.le_of_ble_eq_true rfl) (.cons rfl rfl (Nat.le_of_ble_eq_true rfl) (.cons rfl rfl (Nat.le_of_ble_eq_true rfl) (.cons rfl rfl (Nat.le_of_ble_eq_true rfl) (.cons rfl rfl (Nat.le_of_ble_eq_true rfl) .nil))))) rfl) ?_
  refine G.opc (by decide) (OpC.alloc (cs := [.int .u8 0, .bool false, .bool false, .bool false, .bool false, .int .u32 0, .int .u16 0, .int .u32 0, .int .u32 0, .int .u32 0, .int .u32 0, .int .u32 0, .int .u16 0, .int .u16 0, .slice none 0 0, .slice none 0 0, .slice none 0 0, .slice none 0 0, .slice none 0 0]) Try.zeroValue36 rfl) fun b2 => ?_
  refine G.op0  (OpC.storeAgg (k := 19) Try.sizeOf36 rfl rfl rfl rfl (by repeat (first | with_reducible exact Pick.here | with_reducible apply Pick.there)) (setWhole rfl) (Nat.le_of_ble_eq_true rfl)) fun _ => ?_
  refine G.done ?_
  refine G.seq ?_
  refine G.draw Try_mixed (.still 0 (.still 1 (.still 3 (.still 4 (.loud 2 true (.loud 5 true (.still 6 (.still 7 (.done))))))))) (by kernel_rfl) (.cons (show Pick _ (cel true b2 36 _) _ from by repeat (first | with_reducible exact Pick.here | with_reducible apply Pick.there)) .nil) ?_
  refine GO.yld (i := 0) rfl (by decide) (Yld.move rfl) ?_
  refine GO.yld (i := 1) rfl (by decide) (Yld.loadAgg (cs := [_, _, _, _, _, _, _, _, _, _, _, _, _, _, _, _, _, _, _]) rfl Try.isAgg36 Try.sizeOf36 (by repeat (first | with_reducible exact Pick.here | with_reducible apply Pick.there)) rfl (aggAt rfl)) ?_
  refine GO.yld (i := 3) rfl (by decide) (Yld.move rfl) ?_
  refine GO.yld (i := 4) rfl (by decide) (Yld.loadAgg (cs := [_, _, _, _, _, _, _, _, _, _, _, _, _, _, _, _, _, _, _]) rfl Try.isAgg36 Try.sizeOf36 (by repeat (first | with_reducible exact Pick.here | with_reducible apply Pick.there)) rfl (aggAt rfl)) ?_
  refine GO.opc (i := 2) rfl (by decide) (OpC.call Try.call9 rfl (d1_spec b _ _) (.cons (by repeat (first | with_reducible exact Pick.here | with_reducible apply Pick.there)) (.cons (by repeat (first | with_reducible exact Pick.here | with_reducible apply Pick.there)) .nil))) (fun _ => (.cons (show Pick _ (cel true b2 36 _) _ from by repeat (first | with_reducible exact Pick.here | with_reducible apply Pick.there)) .nil)) fun _ => ?_
  refine GO.star ?_
  refine GO.lift ?_
  rintro rfl
  refine GO.ex fun x => ?_
  refine GO.star ?_
  obtain ⟨ma, mc⟩ := x
  refine GO.opc (i := 5) rfl (by decide) (OpC.call Try.call9 rfl (d2_spec b _ _ ma mc) (.cons (by repeat (first | with_reducible exact Pick.here | with_reducible apply Pick.there)) (.cons (by repeat (first | with_reducible exact Pick.here | with_reducible apply Pick.there)) .nil))) (fun _ => (.cons (show Pick _ (cel true b2 36 _) _ from by repeat (first | with_reducible exact Pick.here | with_reducible apply Pick.there)) .nil)) fun _ => ?_
  refine GO.star ?_
  refine GO.lift ?_
  rintro rfl
  refine GO.ex fun x => ?_
  refine GO.star ?_
  refine GO.yld (i := 6) rfl (by decide) (Yld.assign rfl) ?_
  refine GO.yld (i := 7) rfl (by decide) (Yld.assign rfl) ?_
  refine GO.done ?_
  refine G.seq ?_
  refine G.region ?_
  refine G.yld (by decide) (Yld.move rfl) ?_
  refine G.opc (by decide) (OpC.call Try.call21 rfl (s1_spec b ma mc _ [11] (by decide) [m1 ma mc] (.inl rfl)) (.cons (by repeat (first | with_reducible exact Pick.here | with_reducible apply Pick.there)) .nil)) fun _ => ?_
  refine G.ex fun y => ?_
  refine G.star ?_
  refine G.lift ?_
  rintro rfl
  refine G.star ?_
  obtain ⟨ga, gc, da, dc⟩ := y
  refine G.opc (by decide) (OpC.alloc (cs := [.int .u8 0, .bool false, .bool false, .bool false, .bool false, .int .u32 0, .int .u16 0, .int .u32 0, .int .u32 0, .int .u32 0, .int .u32 0, .int .u32 0, .int .u16 0, .int .u16 0, .slice none 0 0, .slice none 0 0, .slice none 0 0, .slice none 0 0, .slice none 0 0]) Try.zeroValue36 rfl) fun b5 => ?_
  refine G.op0  (OpC.storeAgg (k := 19) Try.sizeOf36 rfl rfl rfl rfl (by repeat (first | with_reducible exact Pick.here | with_reducible apply Pick.there)) (setWhole rfl) (Nat.le_of_ble_eq_true rfl)) fun _ => ?_
  refine G.done ?_
  refine G.seq ?_
  refine G.region ?_
  refine G.yld (by decide) (Yld.move rfl) ?_
  refine G.opc (by decide) (OpC.call Try.call22 rfl (nTake_spec b S1 (nxP [] c1) (m1 ma mc) [] []) (.cons (by repeat (first | with_reducible exact Pick.here | with_reducible apply Pick.there)) .nil)) fun _ => ?_
  refine G.star ?_
  refine G.lift ?_
  rintro rfl
  refine G.star ?_
  refine G.yld (by decide) (Yld.move rfl) ?_
  refine G.yld (by decide) (Yld.extract rfl rfl) ?_
  refine G.yld (by decide) (Yld.extract rfl rfl) ?_
  refine G.opc (by decide) (OpC.alloc (cs := [.int .u16 0, .bool false, .int .u32 0, .int .u32 0, .slice none 0 0]) Try.zeroValue68 rfl) fun b6 => ?_
  refine G.op0  (OpC.storeAgg (k := 5) Try.sizeOf68 rfl rfl rfl rfl (by repeat (first | with_reducible exact Pick.here | with_reducible apply Pick.there)) (setWhole rfl) (Nat.le_of_ble_eq_true rfl)) fun _ => ?_
  refine G.yld (by decide) (Yld.assign rfl) ?_
  refine G.done ?_
  refine G.seq ?_
  refine G.region ?_
  refine G.yld (by decide) (Yld.move rfl) ?_
  refine G.yld (by decide) (Yld.eql_i (b := (0 : Int)) rfl rfl) ?_
  refine G.as (t := 28) (v := .bool true) rfl (congrArg Value.bool (decide_eq_true rfl)) ?_
  refine G.yld (by decide) (Yld.move rfl) ?_
  refine G.yldG (by decide) rfl rfl (Yld.move rfl) ?_
  refine G.yldG (by decide) rfl rfl (Yld.eql_i (b := (1 : Int)) rfl rfl) ?_
  refine G.as (t := 31) (v := .bool true) rfl (congrArg Value.bool (decide_eq_true rfl)) ?_
  refine G.yld (by decide) (Yld.pickT rfl rfl) ?_
  refine G.yld (by decide) (Yld.move rfl) ?_
  refine G.yldG (by decide) rfl rfl (Yld.fieldAddr Try_fo36_5 rfl) ?_
  refine G.yldG (by decide) rfl rfl (Yld.load rfl Try.isAgg22 (by repeat (first | with_reducible exact Pick.here | with_reducible apply Pick.there)) rfl) ?_
  refine G.yldG (by decide) rfl rfl (Yld.eql_u32 (b := (9 : UInt32)) rfl rfl) ?_
  refine G.as (t := 36) (v := .bool true) rfl (congrArg Value.bool (decide_eq_true rfl)) ?_
  refine G.yld (by decide) (Yld.pickT rfl rfl) ?_
  refine G.yld (by decide) (Yld.move rfl) ?_
  refine G.yldG (by decide) rfl rfl (Yld.fieldAddr Try_fo36_14 rfl) ?_
  refine G.yldG (by decide) rfl rfl (Yld.load rfl Try.isAgg31 (by repeat (first | with_reducible exact Pick.here | with_reducible apply Pick.there)) rfl) ?_
  refine G.yldG (by decide) rfl rfl (Yld.len_slice Try.runUnderlying31 rfl) ?_
  refine G.yldG (by decide) rfl rfl (Yld.eql_i (b := (1 : Int)) rfl rfl) ?_
  refine G.as (t := 42) (v := .bool true) rfl (congrArg Value.bool (decide_eq_true rfl)) ?_
  refine G.yld (by decide) (Yld.pickT rfl rfl) ?_
  refine G.yld (by decide) (Yld.move rfl) ?_
  refine G.yldG (by decide) rfl rfl (Yld.fieldAddr Try_fo36_15 rfl) ?_
  refine G.yldG (by decide) rfl rfl (Yld.load rfl Try.isAgg32 (by repeat (first | with_reducible exact Pick.here | with_reducible apply Pick.there)) rfl) ?_
  refine G.yldG (by decide) rfl rfl (Yld.len_slice Try.runUnderlying32 rfl) ?_
  refine G.yldG (by decide) rfl rfl (Yld.eql_i (b := (1 : Int)) rfl rfl) ?_
  refine G.as (t := 48) (v := .bool true) rfl (congrArg Value.bool (decide_eq_true rfl)) ?_
  refine G.yld (by decide) (Yld.pickT rfl rfl) ?_
  refine G.yld (by decide) (Yld.move rfl) ?_
  refine G.yldG (by decide) rfl rfl (Yld.move rfl) ?_
  refine G.opG (by decide) rfl rfl (OpC.call Try.call21 rfl (s1_spec b ma mc _ [] (by decide) [] (.inr rfl)) (.cons (by repeat (first | with_reducible exact Pick.here | with_reducible apply Pick.there)) .nil)) fun _ => ?_
  refine G.ex fun y2 => ?_
  refine G.star ?_
  refine G.lift ?_
  rintro rfl
  refine G.star ?_
  refine G.yldG (by decide) rfl rfl (Yld.field Try_fa36_15 rfl rfl) ?_
  refine G.yldG (by decide) rfl rfl (Yld.len_slice Try.runUnderlying32 rfl) ?_
  refine G.yldG (by decide) rfl rfl (Yld.eql_i (b := (0 : Int)) rfl rfl) ?_
  refine G.as (t := 55) (v := .bool true) rfl (congrArg Value.bool (decide_eq_true rfl)) ?_
  refine G.yld (by decide) (Yld.pickT rfl rfl) ?_
  refine G.yld (by decide) (Yld.move rfl) ?_
  refine G.yldG (by decide) rfl rfl (Yld.move rfl) ?_
  refine G.yld (by decide) (Yld.pickT rfl rfl) ?_
  refine G.yld (by decide) (Yld.move rfl) ?_
  refine G.yldG (by decide) rfl rfl (Yld.fieldAddr Try_fo68_4 rfl) ?_
  refine G.yldG (by decide) rfl rfl (Yld.load rfl Try.isAgg23 (by repeat (first | with_reducible exact Pick.here | with_reducible apply Pick.there)) rfl) ?_
  refine G.yldG (by decide) rfl rfl (Yld.bytesStr (l := [120]) Try.underlying23 Try.underlying5 Try.underlying9 rfl (show Pick _ (sl true 1 (.slice ma _ _) _ _) _ from by repeat (first | with_reducible exact Pick.here | with_reducible apply Pick.there)) (by rfl) (by decide)) ?_
  refine G.yldG (by decide) rfl rfl (Yld.eqlStr rfl rfl) ?_
  refine G.as (t := 64) (v := .bool true) rfl (congrArg Value.bool (by decide +kernel)) ?_
  refine G.yld (by decide) (Yld.pickT rfl rfl) ?_
  refine G.yld (by decide) (Yld.move rfl) ?_
  refine G.yldG (by decide) rfl rfl (Yld.move rfl) ?_
  refine G.opG (by decide) rfl rfl (OpC.call Try.call10 rfl (nMark_spec b S1 _ _ _) (.cons (by repeat (first | with_reducible exact Pick.here | with_reducible apply Pick.there)) .nil)) fun _ => ?_
  refine G.star ?_
  refine G.lift ?_
  rintro rfl
  refine G.yldG (by decide) rfl rfl (Yld.eql_u32 (b := (9 : UInt32)) rfl rfl) ?_
  refine G.as (t := 69) (v := .bool true) rfl (congrArg Value.bool (decide_eq_true rfl)) ?_
  refine G.yld (by decide) (Yld.pickT rfl rfl) ?_
  refine G.yld (by decide) (Yld.assign rfl) ?_
  refine G.done ?_
  refine G.ret ?_
  refine G.ret1 (.inr rfl) Try.results7 (.tmp rfl) ?_
  exact ⟨_, (.lift rfl)⟩
end Go.Fl
