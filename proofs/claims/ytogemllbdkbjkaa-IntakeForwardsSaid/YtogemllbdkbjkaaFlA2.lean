/- Contracts, printed by a program of mine and proved by Lean. -/
import Derived.Test.YtogemllbdkbjkaaFlTypes
import Derived.Test.YtogemllbdkbjkaaFlA1
set_option linter.unusedVariables false
set_option linter.unusedSimpArgs false
namespace Go.Fl
open Go Go.Sl Go.Proofs
set_option maxRecDepth 10000
set_option linter.unusedVariables false
theorem cloneB {m : Bool} {n : Nat} {cs : List Value} (v : Value) (hcell : cs.all isCell = true) (hroom : Room (n * 1)) : Sl.Spec Try.prog 60 [v].toArray [sl m 1 v n cs] (fun v' => star (sl true 1 v' n cs) (sl m 1 v n cs)) := by
  refine Sl.Spec.of_body (vs := [v]) Try.func60 Try.ntmps60 (Nat.le_of_ble_eq_true rfl) rfl fun w0 F => ?_
  refine G.slnil (fun hv hn hc => ?_) (fun a cap hv hle hl => ?_)
  · subst hv; subst hn; subst hc
    refine G.seq ?_
    refine G.region ?_
    refine G.yld (by decide) (Yld.assign rfl) ?_
    refine G.done ?_
    refine G.seq ?_
    refine G.seq ?_
    refine G.region ?_
    refine G.yld (by decide) (Yld.move rfl) ?_
    refine G.yld (by decide) (Yld.eqlNil_slice Try.underlying23 rfl) ?_
    refine G.done ?_
    refine G.condT rfl ?_
    refine G.seq ?_
    refine G.region ?_
    refine G.yld (by decide) (Yld.assign rfl) ?_
    refine G.done ?_
    refine G.ret ?_
    refine G.ret1 (.inr rfl) Try.results60 (.tmp rfl) ?_
    exact ⟨_, (.star (.imp .emp fun _ _ => sl_nil) (.pick (by repeat (first | with_reducible exact Pick.here | with_reducible apply Pick.there))))⟩
  · subst hv
    refine G.seq ?_
    refine G.region ?_
    refine G.yld (by decide) (Yld.assign rfl) ?_
    refine G.done ?_
    refine G.seq ?_
    refine G.seq ?_
    refine G.region ?_
    refine G.yld (by decide) (Yld.move rfl) ?_
    refine G.yld (by decide) (Yld.eqlNil_slice Try.underlying23 rfl) ?_
    refine G.done ?_
    refine G.condF rfl ?_
    refine G.skip ?_
    refine G.seq ?_
    refine G.region ?_
    refine G.opc (by decide) (OpC.build0 (k := 1) Try.runUnderlying23 Try.sizeOf5) fun v5 => ?_
    refine G.yld (by decide) (Yld.move rfl) ?_
    refine G.opc (by decide) (OpC.appendE (kk := 1) (bytes := 1) Try.underlying23 Try.type5 rfl rfl rfl rfl rfl Try.underlying23 rfl rfl .here (by repeat (first | with_reducible exact Pick.here | with_reducible apply Pick.there)) hcell (by rw [Nat.zero_add]; exact hroom) (Nat.zero_add _) (List.nil_append _)) fun v7 => ?_
    refine G.yld (by decide) (Yld.assign rfl) ?_
    refine G.done ?_
    refine G.ret ?_
    refine G.ret1 (.inr rfl) Try.results60 (.tmp rfl) ?_
    exact ⟨_, (.star (.pick (by repeat (first | with_reducible exact Pick.here | with_reducible apply Pick.there))) (.pick (by repeat (first | with_reducible exact Pick.here | with_reducible apply Pick.there))))⟩
theorem cloneB_nil : Sl.Spec Try.prog 60 [nilS].toArray [] (fun v => lift (v = nilS)) := by
  refine Sl.Spec.of_body (vs := [nilS]) Try.func60 Try.ntmps60 (Nat.le_of_ble_eq_true rfl) rfl fun w0 F => ?_
  refine G.seq ?_
  refine G.region ?_
  refine G.yld (by decide) (Yld.assign rfl) ?_
  refine G.done ?_
  refine G.seq ?_
  refine G.seq ?_
  refine G.region ?_
  refine G.yld (by decide) (Yld.move rfl) ?_
  refine G.yld (by decide) (Yld.eqlNil_slice Try.underlying23 rfl) ?_
  refine G.done ?_
  refine G.condT rfl ?_
  refine G.seq ?_
  refine G.region ?_
  refine G.yld (by decide) (Yld.assign rfl) ?_
  refine G.done ?_
  refine G.ret ?_
  refine G.ret1 (.inr rfl) Try.results60 (.tmp rfl) ?_
  exact ⟨_, (.lift rfl)⟩
theorem cloneG {m : Bool} {n : Nat} {cs : List Value} (v : Value) (hcell : cs.all isCell = true) (hroom : Room (n * 4)) : Sl.Spec Try.prog 72 [v].toArray [sl m 2 v n cs] (fun v' => star (sl true 2 v' n cs) (sl m 2 v n cs)) := by
  refine Sl.Spec.of_body (vs := [v]) Try.func72 Try.ntmps72 (Nat.le_of_ble_eq_true rfl) rfl fun w0 F => ?_
  refine G.slnil (fun hv hn hc => ?_) (fun a cap hv hle hl => ?_)
  · subst hv; subst hn; subst hc
    refine G.seq ?_
    refine G.region ?_
    refine G.yld (by decide) (Yld.assign rfl) ?_
    refine G.done ?_
    refine G.seq ?_
    refine G.seq ?_
    refine G.region ?_
    refine G.yld (by decide) (Yld.move rfl) ?_
    refine G.yld (by decide) (Yld.eqlNil_slice Try.underlying31 rfl) ?_
    refine G.done ?_
    refine G.condT rfl ?_
    refine G.seq ?_
    refine G.region ?_
    refine G.yld (by decide) (Yld.assign rfl) ?_
    refine G.done ?_
    refine G.ret ?_
    refine G.ret1 (.inr rfl) Try.results72 (.tmp rfl) ?_
    exact ⟨_, (.star (.imp .emp fun _ _ => sl_nil) (.pick (by repeat (first | with_reducible exact Pick.here | with_reducible apply Pick.there))))⟩
  · subst hv
    refine G.seq ?_
    refine G.region ?_
    refine G.yld (by decide) (Yld.assign rfl) ?_
    refine G.done ?_
    refine G.seq ?_
    refine G.seq ?_
    refine G.region ?_
    refine G.yld (by decide) (Yld.move rfl) ?_
    refine G.yld (by decide) (Yld.eqlNil_slice Try.underlying31 rfl) ?_
    refine G.done ?_
    refine G.condF rfl ?_
    refine G.skip ?_
    refine G.seq ?_
    refine G.region ?_
    refine G.opc (by decide) (OpC.build0 (k := 2) Try.runUnderlying31 Try.sizeOf57) fun v5 => ?_
    refine G.yld (by decide) (Yld.move rfl) ?_
    refine G.opc (by decide) (OpC.appendE (kk := 2) (bytes := 4) Try.underlying31 Try.type57 rfl rfl rfl rfl rfl Try.underlying31 rfl rfl .here (by repeat (first | with_reducible exact Pick.here | with_reducible apply Pick.there)) hcell (by rw [Nat.zero_add]; exact hroom) (Nat.zero_add _) (List.nil_append _)) fun v7 => ?_
    refine G.yld (by decide) (Yld.assign rfl) ?_
    refine G.done ?_
    refine G.ret ?_
    refine G.ret1 (.inr rfl) Try.results72 (.tmp rfl) ?_
    exact ⟨_, (.star (.pick (by repeat (first | with_reducible exact Pick.here | with_reducible apply Pick.there))) (.pick (by repeat (first | with_reducible exact Pick.here | with_reducible apply Pick.there))))⟩
theorem cloneG_nil : Sl.Spec Try.prog 72 [nilS].toArray [] (fun v => lift (v = nilS)) := by
  refine Sl.Spec.of_body (vs := [nilS]) Try.func72 Try.ntmps72 (Nat.le_of_ble_eq_true rfl) rfl fun w0 F => ?_
  refine G.seq ?_
  refine G.region ?_
  refine G.yld (by decide) (Yld.assign rfl) ?_
  refine G.done ?_
  refine G.seq ?_
  refine G.seq ?_
  refine G.region ?_
  refine G.yld (by decide) (Yld.move rfl) ?_
  refine G.yld (by decide) (Yld.eqlNil_slice Try.underlying31 rfl) ?_
  refine G.done ?_
  refine G.condT rfl ?_
  refine G.seq ?_
  refine G.region ?_
  refine G.yld (by decide) (Yld.assign rfl) ?_
  refine G.done ?_
  refine G.ret ?_
  refine G.ret1 (.inr rfl) Try.results72 (.tmp rfl) ?_
  exact ⟨_, (.lift rfl)⟩
theorem cloneU {m : Bool} {n : Nat} {cs : List Value} (v : Value) (hcell : cs.all isCell = true) (hroom : Room (n * 4)) : Sl.Spec Try.prog 52 [v].toArray [sl m 1 v n cs] (fun v' => star (sl true 1 v' n cs) (sl m 1 v n cs)) := by
  refine Sl.Spec.of_body (vs := [v]) Try.func52 Try.ntmps52 (Nat.le_of_ble_eq_true rfl) rfl fun w0 F => ?_
  refine G.slnil (fun hv hn hc => ?_) (fun a cap hv hle hl => ?_)
  · subst hv; subst hn; subst hc
    refine G.seq ?_
    refine G.region ?_
    refine G.yld (by decide) (Yld.assign rfl) ?_
    refine G.done ?_
    refine G.seq ?_
    refine G.seq ?_
    refine G.region ?_
    refine G.yld (by decide) (Yld.move rfl) ?_
    refine G.yld (by decide) (Yld.eqlNil_slice Try.underlying32 rfl) ?_
    refine G.done ?_
    refine G.condT rfl ?_
    refine G.seq ?_
    refine G.region ?_
    refine G.yld (by decide) (Yld.assign rfl) ?_
    refine G.done ?_
    refine G.ret ?_
    refine G.ret1 (.inr rfl) Try.results52 (.tmp rfl) ?_
    exact ⟨_, (.star (.imp .emp fun _ _ => sl_nil) (.pick (by repeat (first | with_reducible exact Pick.here | with_reducible apply Pick.there))))⟩
  · subst hv
    refine G.seq ?_
    refine G.region ?_
    refine G.yld (by decide) (Yld.assign rfl) ?_
    refine G.done ?_
    refine G.seq ?_
    refine G.seq ?_
    refine G.region ?_
    refine G.yld (by decide) (Yld.move rfl) ?_
    refine G.yld (by decide) (Yld.eqlNil_slice Try.underlying32 rfl) ?_
    refine G.done ?_
    refine G.condF rfl ?_
    refine G.skip ?_
    refine G.seq ?_
    refine G.region ?_
    refine G.opc (by decide) (OpC.build0 (k := 1) Try.runUnderlying32 Try.sizeOf22) fun v5 => ?_
    refine G.yld (by decide) (Yld.move rfl) ?_
    refine G.opc (by decide) (OpC.appendE (kk := 1) (bytes := 4) Try.underlying32 Try.type22 rfl rfl rfl rfl rfl Try.underlying32 rfl rfl .here (by repeat (first | with_reducible exact Pick.here | with_reducible apply Pick.there)) hcell (by rw [Nat.zero_add]; exact hroom) (Nat.zero_add _) (List.nil_append _)) fun v7 => ?_
    refine G.yld (by decide) (Yld.assign rfl) ?_
    refine G.done ?_
    refine G.ret ?_
    refine G.ret1 (.inr rfl) Try.results52 (.tmp rfl) ?_
    exact ⟨_, (.star (.pick (by repeat (first | with_reducible exact Pick.here | with_reducible apply Pick.there))) (.pick (by repeat (first | with_reducible exact Pick.here | with_reducible apply Pick.there))))⟩
theorem cloneU_nil : Sl.Spec Try.prog 52 [nilS].toArray [] (fun v => lift (v = nilS)) := by
  refine Sl.Spec.of_body (vs := [nilS]) Try.func52 Try.ntmps52 (Nat.le_of_ble_eq_true rfl) rfl fun w0 F => ?_
  refine G.seq ?_
  refine G.region ?_
  refine G.yld (by decide) (Yld.assign rfl) ?_
  refine G.done ?_
  refine G.seq ?_
  refine G.seq ?_
  refine G.region ?_
  refine G.yld (by decide) (Yld.move rfl) ?_
  refine G.yld (by decide) (Yld.eqlNil_slice Try.underlying32 rfl) ?_
  refine G.done ?_
  refine G.condT rfl ?_
  refine G.seq ?_
  refine G.region ?_
  refine G.yld (by decide) (Yld.assign rfl) ?_
  refine G.done ?_
  refine G.ret ?_
  refine G.ret1 (.inr rfl) Try.results52 (.tmp rfl) ?_
  exact ⟨_, (.lift rfl)⟩
theorem cloneK {m : Bool} {n : Nat} {cs : List Value} (v : Value) (hcell : cs.all isCell = true) (hroom : Room (n * 8)) : Sl.Spec Try.prog 73 [v].toArray [sl m 3 v n cs] (fun v' => star (sl true 3 v' n cs) (sl m 3 v n cs)) := by
  refine Sl.Spec.of_body (vs := [v]) Try.func73 Try.ntmps73 (Nat.le_of_ble_eq_true rfl) rfl fun w0 F => ?_
  refine G.slnil (fun hv hn hc => ?_) (fun a cap hv hle hl => ?_)
  · subst hv; subst hn; subst hc
    refine G.seq ?_
    refine G.region ?_
    refine G.yld (by decide) (Yld.assign rfl) ?_
    refine G.done ?_
    refine G.seq ?_
    refine G.seq ?_
    refine G.region ?_
    refine G.yld (by decide) (Yld.move rfl) ?_
    refine G.yld (by decide) (Yld.eqlNil_slice Try.underlying33 rfl) ?_
    refine G.done ?_
    refine G.condT rfl ?_
    refine G.seq ?_
    refine G.region ?_
    refine G.yld (by decide) (Yld.assign rfl) ?_
    refine G.done ?_
    refine G.ret ?_
    refine G.ret1 (.inr rfl) Try.results73 (.tmp rfl) ?_
    exact ⟨_, (.star (.imp .emp fun _ _ => sl_nil) (.pick (by repeat (first | with_reducible exact Pick.here | with_reducible apply Pick.there))))⟩
  · subst hv
    refine G.seq ?_
    refine G.region ?_
    refine G.yld (by decide) (Yld.assign rfl) ?_
    refine G.done ?_
    refine G.seq ?_
    refine G.seq ?_
    refine G.region ?_
    refine G.yld (by decide) (Yld.move rfl) ?_
    refine G.yld (by decide) (Yld.eqlNil_slice Try.underlying33 rfl) ?_
    refine G.done ?_
    refine G.condF rfl ?_
    refine G.skip ?_
    refine G.seq ?_
    refine G.region ?_
    refine G.opc (by decide) (OpC.build0 (k := 3) Try.runUnderlying33 Try.sizeOf52) fun v5 => ?_
    refine G.yld (by decide) (Yld.move rfl) ?_
    refine G.opc (by decide) (OpC.appendE (kk := 3) (bytes := 8) Try.underlying33 Try.type52 rfl rfl rfl rfl rfl Try.underlying33 rfl rfl .here (by repeat (first | with_reducible exact Pick.here | with_reducible apply Pick.there)) hcell (by rw [Nat.zero_add]; exact hroom) (Nat.zero_add _) (List.nil_append _)) fun v7 => ?_
    refine G.yld (by decide) (Yld.assign rfl) ?_
    refine G.done ?_
    refine G.ret ?_
    refine G.ret1 (.inr rfl) Try.results73 (.tmp rfl) ?_
    exact ⟨_, (.star (.pick (by repeat (first | with_reducible exact Pick.here | with_reducible apply Pick.there))) (.pick (by repeat (first | with_reducible exact Pick.here | with_reducible apply Pick.there))))⟩
theorem cloneK_nil : Sl.Spec Try.prog 73 [nilS].toArray [] (fun v => lift (v = nilS)) := by
  refine Sl.Spec.of_body (vs := [nilS]) Try.func73 Try.ntmps73 (Nat.le_of_ble_eq_true rfl) rfl fun w0 F => ?_
  refine G.seq ?_
  refine G.region ?_
  refine G.yld (by decide) (Yld.assign rfl) ?_
  refine G.done ?_
  refine G.seq ?_
  refine G.seq ?_
  refine G.region ?_
  refine G.yld (by decide) (Yld.move rfl) ?_
  refine G.yld (by decide) (Yld.eqlNil_slice Try.underlying33 rfl) ?_
  refine G.done ?_
  refine G.condT rfl ?_
  refine G.seq ?_
  refine G.region ?_
  refine G.yld (by decide) (Yld.assign rfl) ?_
  refine G.done ?_
  refine G.ret ?_
  refine G.ret1 (.inr rfl) Try.results73 (.tmp rfl) ?_
  exact ⟨_, (.lift rfl)⟩
theorem cloneP {m : Bool} {n : Nat} {cs : List Value} (v : Value) (hcell : cs.all isCell = true) (hroom : Room (n * 8)) : Sl.Spec Try.prog 50 [v].toArray [sl m 1 v n cs] (fun v' => star (sl true 1 v' n cs) (sl m 1 v n cs)) := by
  refine Sl.Spec.of_body (vs := [v]) Try.func50 Try.ntmps50 (Nat.le_of_ble_eq_true rfl) rfl fun w0 F => ?_
  refine G.slnil (fun hv hn hc => ?_) (fun a cap hv hle hl => ?_)
  · subst hv; subst hn; subst hc
    refine G.seq ?_
    refine G.region ?_
    refine G.yld (by decide) (Yld.assign rfl) ?_
    refine G.done ?_
    refine G.seq ?_
    refine G.seq ?_
    refine G.region ?_
    refine G.yld (by decide) (Yld.move rfl) ?_
    refine G.yld (by decide) (Yld.eqlNil_slice Try.underlying85 rfl) ?_
    refine G.done ?_
    refine G.condT rfl ?_
    refine G.seq ?_
    refine G.region ?_
    refine G.yld (by decide) (Yld.assign rfl) ?_
    refine G.done ?_
    refine G.ret ?_
    refine G.ret1 (.inr rfl) Try.results50 (.tmp rfl) ?_
    exact ⟨_, (.star (.imp .emp fun _ _ => sl_nil) (.pick (by repeat (first | with_reducible exact Pick.here | with_reducible apply Pick.there))))⟩
  · subst hv
    refine G.seq ?_
    refine G.region ?_
    refine G.yld (by decide) (Yld.assign rfl) ?_
    refine G.done ?_
    refine G.seq ?_
    refine G.seq ?_
    refine G.region ?_
    refine G.yld (by decide) (Yld.move rfl) ?_
    refine G.yld (by decide) (Yld.eqlNil_slice Try.underlying85 rfl) ?_
    refine G.done ?_
    refine G.condF rfl ?_
    refine G.skip ?_
    refine G.seq ?_
    refine G.region ?_
    refine G.opc (by decide) (OpC.build0 (k := 1) Try.runUnderlying85 Try.sizeOf89) fun v5 => ?_
    refine G.yld (by decide) (Yld.move rfl) ?_
    refine G.opc (by decide) (OpC.appendE (kk := 1) (bytes := 8) Try.underlying85 Try.type89 rfl rfl rfl rfl rfl Try.underlying85 rfl rfl .here (by repeat (first | with_reducible exact Pick.here | with_reducible apply Pick.there)) hcell (by rw [Nat.zero_add]; exact hroom) (Nat.zero_add _) (List.nil_append _)) fun v7 => ?_
    refine G.yld (by decide) (Yld.assign rfl) ?_
    refine G.done ?_
    refine G.ret ?_
    refine G.ret1 (.inr rfl) Try.results50 (.tmp rfl) ?_
    exact ⟨_, (.star (.pick (by repeat (first | with_reducible exact Pick.here | with_reducible apply Pick.there))) (.pick (by repeat (first | with_reducible exact Pick.here | with_reducible apply Pick.there))))⟩
theorem cloneP_nil : Sl.Spec Try.prog 50 [nilS].toArray [] (fun v => lift (v = nilS)) := by
  refine Sl.Spec.of_body (vs := [nilS]) Try.func50 Try.ntmps50 (Nat.le_of_ble_eq_true rfl) rfl fun w0 F => ?_
  refine G.seq ?_
  refine G.region ?_
  refine G.yld (by decide) (Yld.assign rfl) ?_
  refine G.done ?_
  refine G.seq ?_
  refine G.seq ?_
  refine G.region ?_
  refine G.yld (by decide) (Yld.move rfl) ?_
  refine G.yld (by decide) (Yld.eqlNil_slice Try.underlying85 rfl) ?_
  refine G.done ?_
  refine G.condT rfl ?_
  refine G.seq ?_
  refine G.region ?_
  refine G.yld (by decide) (Yld.assign rfl) ?_
  refine G.done ?_
  refine G.ret ?_
  refine G.ret1 (.inr rfl) Try.results50 (.tmp rfl) ?_
  exact ⟨_, (.lift rfl)⟩
end Go.Fl
