/- A region that draws its order: walked in ONE order, where what only reads is taken first. -/
import Derived.Test.YtogemllbdkbjkaaSlWalk
set_option linter.unusedVariables false
set_option linter.unusedSimpArgs false
namespace Go.Sl
open Go

section
variable {P : Program} {ops : Array Oper} {Q : Exit → Act → World → Prop} {md : Region.Mode} {S : World → Prop} {stills : List Nat}

/-- all that must come ahead of an operation, as bits -/
def maskOf (md : Region.Mode) (acc : List Nat) (es : List Edge) : Nat := es.foldl (fun m e => if Region.binds md e then m ||| (1 <<< e.on) ||| acc.getD e.on 0 else m) 0
def maskGo (md : Region.Mode) : List Nat → List Oper → List Nat
  | acc, [] => acc
  | acc, o :: l => maskGo md (acc ++ [maskOf md acc o.after.toList]) l
def masks (md : Region.Mode) (ops : Array Oper) : List Nat := maskGo md [] ops.toList
def reach (md : Region.Mode) (ops : Array Oper) (i j : Nat) : Bool := ((masks md ops).getD j 0).testBit i
def lateB (md : Region.Mode) (ops : Array Oper) (stills : List Nat) (j : Nat) : Bool := stills.all fun i => reach md ops i j
def anyLate (md : Region.Mode) (ops : Array Oper) (stills : List Nat) (listed : Array Bool) : Bool :=
  (List.range ops.size).any fun j => listed.getD j false && lateB md ops stills j
def Closed (md : Region.Mode) (ops : Array Oper) (listed : Array Bool) : Prop :=
  listed.size = ops.size ∧ ∀ j o, ops[j]? = some o → listed.getD j false = true → ∀ e ∈ o.after, Region.binds md e = true → listed.getD e.on false = true

theorem maskOf_bit {acc : List Nat} {i : Nat} : ∀ (es : List Edge) (m : Nat), (es.foldl (fun m e => if Region.binds md e then m ||| (1 <<< e.on) ||| acc.getD e.on 0 else m) m).testBit i = true →
    m.testBit i = true ∨ ∃ e ∈ es, Region.binds md e = true ∧ (e.on = i ∨ (acc.getD e.on 0).testBit i = true)
  | [], m, h => .inl h
  | e :: es, m, h => by
    simp only [List.foldl_cons] at h
    rcases maskOf_bit es _ h with h1 | ⟨e', he', h2⟩
    · by_cases hb : Region.binds md e = true
      · rw [if_pos hb] at h1
        simp only [Nat.testBit_or, Bool.or_eq_true] at h1
        rcases h1 with (h1 | h1) | h1
        · exact .inl h1
        · refine .inr ⟨e, by simp, hb, .inl ?_⟩
          rw [Nat.one_shiftLeft, Nat.testBit_two_pow] at h1
          simpa using h1
        · exact .inr ⟨e, by simp, hb, .inr h1⟩
      · rw [if_neg hb] at h1; exact .inl h1
    · exact .inr ⟨e', by simp [he'], h2⟩
/-- what the bits say: listed is whatever they name -/
def BitsOk (md : Region.Mode) (ops : Array Oper) (listed : Array Bool) (acc : List Nat) : Prop :=
  ∀ j i, (acc.getD j 0).testBit i = true → (∀ o, ops[j]? = some o → ∀ e ∈ o.after, Region.binds md e = true → listed.getD e.on false = true) → listed.getD i false = true
theorem maskGo_ok {listed : Array Bool} (hc : Closed md ops listed) : ∀ (l : List Oper) (acc : List Nat), (∀ k, l[k]? = ops[acc.length + k]?) → BitsOk md ops listed acc → BitsOk md ops listed (maskGo md acc l)
  | [], acc, _, h => h
  | o :: l, acc, hl, h => by
    refine maskGo_ok hc l _ (fun k => by have := hl (k + 1); simp only [List.getElem?_cons_succ] at this; rw [this]; congr 1; simp; omega) ?_
    intro j i hb hall
    rcases Nat.lt_trichotomy j acc.length with hj | hj | hj
    · refine h j i ?_ hall
      rw [List.getD_eq_getElem?_getD, List.getElem?_append_left hj] at hb
      rw [List.getD_eq_getElem?_getD]; exact hb
    · subst hj
      have ho : ops[acc.length]? = some o := by have := hl 0; simpa using this.symm
      rw [List.getD_eq_getElem?_getD, List.getElem?_append_right (Nat.le_refl _)] at hb
      simp only [Nat.sub_self, List.getElem?_cons_zero, Option.getD_some] at hb
      rcases maskOf_bit o.after.toList 0 hb with h0 | ⟨e, he, hbd, h1⟩
      · simp at h0
      · have hle := hall o ho e (by simpa using he) hbd
        rcases h1 with h1 | h1
        · rw [← h1]; exact hle
        · exact h e.on i h1 fun o' ho' e' he' hb' => hc.2 e.on o' ho' hle e' he' hb'
    · rw [List.getD_eq_getElem?_getD, List.getElem?_eq_none (by simp; omega)] at hb
      simp at hb
theorem reach_ready {listed : Array Bool} (hc : Closed md ops listed) {i j : Nat} (hj : j ∈ Region.ready md ops listed) (h : reach md ops i j = true) : listed.getD i false = true := by
  obtain ⟨_, o, ho, hall⟩ := mem_ready.1 hj
  have hok : BitsOk md ops listed (masks md ops) := maskGo_ok hc ops.toList [] (fun k => by simp) (fun j i hb => by simp at hb)
  refine hok j i h fun o' ho' e he hb => ?_
  rw [ho] at ho'; cases ho'
  exact hall e he hb
theorem Closed.step {listed : Array Bool} (hc : Closed md ops listed) {j : Nat} (hj : j ∈ Region.ready md ops listed) : Closed md ops (listed.setIfInBounds j true) := by
  refine ⟨by simp [hc.1], ?_⟩
  intro k o ho hk e he hb
  obtain ⟨_, oj, hoj, hall⟩ := mem_ready.1 hj
  by_cases hkj : j = k
  · subst hkj; rw [hoj] at ho; cases ho; exact getD_set_true (hall e he hb)
  · rw [getD_set_ne false hkj] at hk; exact getD_set_true (hc.2 k o ho hk e he hb)

/-- Whatever order is picked from here on; S holds till the first of those that come behind all of 'stills'. -/
def wpAnyK (P : Program) (md : Region.Mode) (ops : Array Oper) (Q : Exit → Act → World → Prop) (S : World → Prop) (stills : List Nat) : Nat → Array Bool → Act → World → Prop
  | 0, listed, a, w => Region.ready md ops listed = [] ∧ Q .normal a w
  | fuel + 1, listed, a, w =>
    (Region.ready md ops listed = [] → Q .normal a w) ∧
    ∀ i ∈ Region.ready md ops listed, wpOp P ops Q i (fun a' w' => (lateB md ops stills i = true ∨ anyLate md ops stills listed = true ∨ S w') ∧ wpAnyK P md ops Q S stills fuel (listed.setIfInBounds i true) a' w') a w

theorem wpAny_of_K : ∀ (fuel : Nat) (listed : Array Bool) (a : Act) (w : World), wpAnyK P md ops Q S stills fuel listed a w → wpAny P md ops Q fuel listed a w
  | 0, _, _, _, h => h
  | fuel + 1, _, _, _, h => ⟨h.1, fun i hi => wpOp_mono (fun a' w' h' => wpAny_of_K fuel _ a' w' h'.2) (h.2 i hi)⟩

theorem anyLate_step {listed : Array Bool} {j : Nat} (h : anyLate md ops stills listed = false) (hj : lateB md ops stills j = false) :
    anyLate md ops stills (listed.setIfInBounds j true) = false := by
  simp only [anyLate, List.any_eq_false, List.mem_range, Bool.and_eq_true, not_and, Bool.not_eq_true] at h ⊢
  intro k hk hl
  by_cases hkj : j = k
  · subst hkj; exact hj
  · rw [getD_set_ne false hkj] at hl; exact h k hk hl

theorem wpAnyK_first {i : Nat} {oi : Oper} {v : Value} (hi : ops[i]? = some oi) (his : i ∈ stills) (hsel : ∀ (j : Nat) (o : Oper) cs b, ops[j]? = some o → o.op ≠ .select cs b)
    (hQ : ∀ c a w, Q (.panic c) (a.put oi.dst v) w → Q (.panic c) a w) :
    ∀ (fuel : Nat) (listed : Array Bool) (a : Act) (w : World), Closed md ops listed → anyLate md ops stills listed = false →
      (∀ j oj, ops[j]? = some oj → j ≠ i → listed.getD j true = false → (∀ e ∈ oj.after, Region.binds md e = true → e.on ≠ i) → oi.apart ops oj = true) →
      i ∈ Region.ready md ops listed → YieldsIf P ops S oi v a → S w →
      wpAnyK P md ops Q S stills fuel (listed.setIfInBounds i true) (a.put oi.dst v) w → wpAnyK P md ops Q S stills (fuel + 1) listed a w := by
  intro fuel
  induction fuel with
  | zero =>
    intro listed a w _ _ _ hr hy hS H
    refine ⟨fun h => (by rw [h] at hr; cases hr), fun j hj => ?_⟩
    by_cases hji : j = i
    · subst hji; exact hy.wpOp hi hS ⟨.inr (.inr hS), H⟩
    · have := ready_mono hj hji
      rw [H.1] at this
      cases this
  | succ fuel ih =>
    intro listed a w hcl hla hfree hr hy hS H
    refine ⟨fun h => (by rw [h] at hr; cases hr), fun j hj => ?_⟩
    have hiun : listed.getD i false = false := by
      have h0 := (mem_ready.1 hr).1
      rcases Nat.lt_or_ge i listed.size with h' | h'
      · simp [h'] at h0 ⊢; exact h0
      · simp [Array.getElem?_eq_none h'] at h0
    have hlate : ∀ k, k ∈ Region.ready md ops listed → lateB md ops stills k = false := by
      intro k hk
      cases hb : lateB md ops stills k with
      | false => rfl
      | true =>
        simp only [lateB, List.all_eq_true] at hb
        have := reach_ready hcl hk (hb i his)
        rw [hiun] at this; cases this
    by_cases hji : j = i
    · subst hji; exact hy.wpOp hi hS ⟨.inr (.inr hS), H⟩
    · have h1 := H.2 j (ready_mono hj hji)
      obtain ⟨hjun, oj, hoj, hall⟩ := mem_ready.1 hj
      have hnot : ∀ e ∈ oj.after, Region.binds md e = true → e.on ≠ i := fun e he hb heq => by
        have h1 := hall e he hb
        rw [heq, hiun] at h1; cases h1
      have h2 := wpOp_putIf hoj (hfree j oj hoj hji hjun hnot) (fun cs b => hsel i oi cs b hi) (fun cs b => hsel j oj cs b hoj) hQ hy h1
      have hfree' : ∀ k ok, ops[k]? = some ok → k ≠ i → (listed.setIfInBounds j true).getD k true = false →
          (∀ e ∈ ok.after, Region.binds md e = true → e.on ≠ i) → oi.apart ops ok = true := fun k ok hk hki hun hno => by
        refine hfree k ok hk hki ?_ hno
        by_cases hjk : j = k
        · subst hjk; exact hjun
        · rw [getD_set_ne true hjk] at hun; exact hun
      refine wpOp_mono (fun a' w' h3 => ?_) h2
      have hSw : S w' := by
        rcases h3.2.1 with h4 | h4 | h4
        · rw [hlate j hj] at h4; cases h4
        · rw [anyLate_step hla (hlate i hr)] at h4; cases h4
        · exact h4
      refine ⟨.inr (.inr hSw), ih (listed.setIfInBounds j true) a' w' (hcl.step hj) (anyLate_step hla (hlate j hj)) hfree' (ready_mono hr (Ne.symm hji)) h3.1 hSw ?_⟩
      rw [Array.setIfInBounds_comm _ _ hji]
      exact h3.2.2

/-! ### one order -/
inductive Ord
  | done
  | still (i : Nat) (r : Ord)
  | loud (i : Nat) (needs : Bool) (r : Ord)
  | two (i : Nat) (ni : Bool) (ri : Ord) (j : Nat) (nj : Bool) (rj : Ord)
def Ord.st : Ord → List Nat
  | .done => []
  | .still i r => i :: r.st
  | .loud _ _ r => r.st
  | .two _ _ ri _ _ rj => ri.st ++ rj.st
def Ord.depth : Ord → Nat
  | .done => 0
  | .still _ r | .loud _ _ r => r.depth + 1
  | .two _ _ ri _ _ rj => max ri.depth rj.depth + 1
/-- does the order fit the region? -/
def Ord.ok (md : Region.Mode) (ops : Array Oper) (stills : List Nat) : Ord → Array Bool → Bool
  | .done, listed => (Region.ready md ops listed).isEmpty
  | .still i r, listed => stills.contains i && (Region.ready md ops listed).contains i && Region.free md ops listed i && !anyLate md ops stills listed && r.ok md ops stills (listed.setIfInBounds i true)
  | .loud i n r, listed => (Region.ready md ops listed == [i]) && (n || lateB md ops stills i || anyLate md ops stills listed) && r.ok md ops stills (listed.setIfInBounds i true)
  | .two i ni ri j nj rj, listed => (Region.ready md ops listed == [i, j]) && (ni || lateB md ops stills i || anyLate md ops stills listed) && (nj || lateB md ops stills j || anyLate md ops stills listed) &&
    ri.ok md ops stills (listed.setIfInBounds i true) && rj.ok md ops stills (listed.setIfInBounds j true)
/-- the walk in this order -/
def wpOrd (P : Program) (ops : Array Oper) (Q : Exit → Act → World → Prop) (S : World → Prop) : Ord → Act → World → Prop
  | .done, a, w => Q .normal a w
  | .still i r, a, w => ∃ o v, ops[i]? = some o ∧ YieldsIf P ops S o v a ∧ S w ∧ wpOrd P ops Q S r (a.put o.dst v) w
  | .loud i n r, a, w => wpOp P ops Q i (fun a' w' => (n = true → S w') ∧ wpOrd P ops Q S r a' w') a w
  | .two i ni ri j nj rj, a, w => wpOp P ops Q i (fun a' w' => (ni = true → S w') ∧ wpOrd P ops Q S ri a' w') a w ∧
    wpOp P ops Q j (fun a' w' => (nj = true → S w') ∧ wpOrd P ops Q S rj a' w') a w

theorem needs_of {n b c : Bool} {p : Prop} (h : (n || b || c) = true) (hp : n = true → p) : b = true ∨ c = true ∨ p := by
  cases n
  · cases b
    · exact .inr (.inl (by simpa using h))
    · exact .inl rfl
  · exact .inr (.inr (hp rfl))

theorem wpAnyK_of_ord (hsel : Region.noSelect ops = true) (hQ : ∀ c a a' w, Q (.panic c) a w → Q (.panic c) a' w) : ∀ (o : Ord) (fuel : Nat) (listed : Array Bool) (a : Act) (w : World),
    o.depth ≤ fuel → Closed md ops listed → o.ok md ops stills listed = true → wpOrd P ops Q S o a w → wpAnyK P md ops Q S stills fuel listed a w
  | .done, fuel, listed, a, w, _, _, hok, h => by
    have hr : Region.ready md ops listed = [] := by simpa [Ord.ok] using hok
    cases fuel with
    | zero => exact ⟨hr, h⟩
    | succ n => exact ⟨fun _ => h, by rw [hr]; simp⟩
  | .still i r, fuel, listed, a, w, hd, hc, hok, h => by
    obtain ⟨oi, v, hi, hy, hS, hrest⟩ := h
    simp only [Ord.ok, Bool.and_eq_true, Bool.not_eq_true'] at hok
    obtain ⟨⟨⟨⟨h1, h2⟩, h3⟩, h4⟩, h5⟩ := hok
    cases fuel with
    | zero => simp [Ord.depth] at hd
    | succ n =>
      have hr : i ∈ Region.ready md ops listed := by simpa using h2
      refine wpAnyK_first hi (by simpa using h1) (Region.noSelect_spec hsel) (fun c a w => hQ c _ _ w) n listed a w hc h4 (Region.free_spec hi h3) hr hy hS ?_
      exact wpAnyK_of_ord hsel hQ r n _ _ _ (by simp [Ord.depth] at hd; exact hd) (hc.step hr) h5 hrest
  | .loud i b r, fuel, listed, a, w, hd, hc, hok, h => by
    simp only [Ord.ok, Bool.and_eq_true, beq_iff_eq] at hok
    obtain ⟨⟨h1, h2⟩, h3⟩ := hok
    cases fuel with
    | zero => simp [Ord.depth] at hd
    | succ n =>
      refine ⟨fun h0 => (by rw [h1] at h0; cases h0), fun k hk => ?_⟩
      have hk' : k ∈ _ := h1 ▸ hk
      have hki : i = k := by simpa [eq_comm] using hk'
      subst hki
      refine wpOp_mono (fun a' w' ⟨hs, hrest⟩ => ⟨needs_of h2 hs, ?_⟩) h
      exact wpAnyK_of_ord hsel hQ r n _ _ _ (by simp [Ord.depth] at hd; exact hd) (hc.step hk) h3 hrest
  | .two i bi ri j bj rj, fuel, listed, a, w, hd, hc, hok, h => by
    simp only [Ord.ok, Bool.and_eq_true, beq_iff_eq] at hok
    obtain ⟨⟨⟨⟨h1, h2⟩, h3⟩, h4⟩, h5⟩ := hok
    cases fuel with
    | zero => simp [Ord.depth] at hd
    | succ n =>
      refine ⟨fun h0 => (by rw [h1] at h0; cases h0), fun k hk => ?_⟩
      have hk' : k ∈ _ := h1 ▸ hk
      have hki : i = k ∨ j = k := by simpa [eq_comm] using hk'
      simp only [Ord.depth] at hd
      rcases hki with hki | hki
      · subst hki
        refine wpOp_mono (fun a' w' ⟨hs, hrest⟩ => ⟨needs_of h2 hs, ?_⟩) h.1
        exact wpAnyK_of_ord hsel hQ ri n _ _ _ (by omega) (hc.step hk) h4 hrest
      · subst hki
        refine wpOp_mono (fun a' w' ⟨hs, hrest⟩ => ⟨needs_of h3 hs, ?_⟩) h.2
        exact wpAnyK_of_ord hsel hQ rj n _ _ _ (by omega) (hc.step hk) h5 hrest

/-- all that is asked of an order, in one Bool -/
def Ord.fits (ops : Array Oper) (o : Ord) : Bool := Region.noSelect ops && decide (o.depth ≤ ops.size) && o.ok .any ops o.st (Array.replicate ops.size false)

theorem wp_region_ord {id : Nat} {a : Act} {w : World} (hm : P.follows .mixedOrders = true) (o : Ord) (hf : o.fits ops = true)
    (h : wpOrd P ops (NoPanic Q) S o a { w with drawn := w.drawn + 1 }) : (Code.region id ops true).wp P Q a w := by
  refine wp_region_noPanic (wp_region_any hm (wpAny_of_K (S := S) (stills := o.st) _ _ _ _ ?_))
  simp only [Ord.fits, Bool.and_eq_true, decide_eq_true_eq] at hf
  obtain ⟨⟨h1, h2⟩, h3⟩ := hf
  refine wpAnyK_of_ord h1 (fun c a a' w h => h.elim) o _ _ _ _ h2 ⟨by simp, ?_⟩ h3 h
  intro j oj _ hj
  simp [Array.getElem?_replicate] at hj
  split at hj <;> simp at hj
end
end Go.Sl
