/- A small logic of separate memory over the model's worlds: what holds of some blocks stays so while others are written. -/
import Derived.OrdersHeld
import Derived.RowKit
set_option linter.unusedVariables false
set_option linter.unusedSimpArgs false
namespace Go.Sl
open Go

/-- some blocks of memory: 'true': nobody else has it; 'false': shared, and never written again -/
abbrev Res := Nat → Option (Bool × Obj)
def Res.ok (r s : Res) : Prop := ∀ b x y, r b = some x → s b = some y → x.1 = false ∧ x = y
def Res.add (r s : Res) : Res := fun b => (r b).or (s b)
def Res.on (r : Res) (w : World) : Prop := ∀ b m o, r b = some (m, o) → w.heap[b]? = some o

abbrev HProp := Res → Prop
def emp : HProp := fun _ => True
def star (A B : HProp) : HProp := fun r => ∃ r1 r2, Res.ok r1 r2 ∧ r = Res.add r1 r2 ∧ A r1 ∧ B r2
def lift (φ : Prop) : HProp := fun _ => φ
def ex {α : Type} (A : α → HProp) : HProp := fun r => ∃ x, A x r
/-- the atoms of a list, ahead of a frame -/
def Hs : List HProp → HProp → HProp
  | [], F => F
  | A :: l, F => star A (Hs l F)

theorem Res.ok_symm {r s : Res} (h : Res.ok r s) : Res.ok s r := fun b x y hx hy => by
  obtain ⟨h1, h2⟩ := h b y x hy hx
  subst h2; exact ⟨h1, rfl⟩

theorem Res.add_some {r s : Res} {b : Nat} {x : Bool × Obj} (h : Res.add r s b = some x) : r b = some x ∨ (r b = none ∧ s b = some x) := by
  unfold Res.add at h
  cases hr : r b with
  | none => rw [hr] at h; exact .inr ⟨rfl, by simpa using h⟩
  | some y => rw [hr] at h; exact .inl (by simpa using h)
theorem Res.add_left {r s : Res} {b : Nat} {x : Bool × Obj} (h : r b = some x) : Res.add r s b = some x := by
  unfold Res.add; rw [h]; rfl
theorem Res.add_none {r s : Res} {b : Nat} (h : r b = none) : Res.add r s b = s b := by
  unfold Res.add; rw [h]; rfl
theorem Res.add_right {r s : Res} (hok : Res.ok r s) {b : Nat} {x : Bool × Obj} (h : s b = some x) : Res.add r s b = some x := by
  cases hr : r b with
  | none => rw [Res.add_none hr, h]
  | some y => rw [Res.add_left hr, (hok b y x hr h).2]
theorem Res.add_comm {r s : Res} (h : Res.ok r s) : Res.add r s = Res.add s r := by
  funext b
  cases hr : r b with
  | none =>
    rw [Res.add_none hr]
    cases hs : s b with
    | none => rw [Res.add_none hs, hr]
    | some y => rw [Res.add_left hs]
  | some x => rw [Res.add_left hr, Res.add_right (Res.ok_symm h) hr]

theorem Res.ok_add {r s t : Res} (h1 : Res.ok r t) (h2 : Res.ok s t) : Res.ok (Res.add r s) t := fun b x y hx hy => by
  rcases Res.add_some hx with h | ⟨_, h⟩
  · exact h1 b x y h hy
  · exact h2 b x y h hy
theorem Res.ok_of_add_left {r s t : Res} (h : Res.ok (Res.add r s) t) : Res.ok r t := fun b x y hx hy => h b x y (Res.add_left hx) hy
theorem Res.ok_of_add_right {r s t : Res} (hrs : Res.ok r s) (h : Res.ok (Res.add r s) t) : Res.ok s t := fun b x y hx hy => h b x y (Res.add_right hrs hx) hy
theorem Res.add_assoc (r s t : Res) : Res.add (Res.add r s) t = Res.add r (Res.add s t) := by
  funext b; simp [Res.add, Option.or_assoc]

theorem star_comm {A B : HProp} {r : Res} (h : star A B r) : star B A r := by
  obtain ⟨r1, r2, hok, rfl, ha, hb⟩ := h
  exact ⟨r2, r1, Res.ok_symm hok, Res.add_comm hok, hb, ha⟩
theorem star_assoc {A B C : HProp} {r : Res} (h : star (star A B) C r) : star A (star B C) r := by
  obtain ⟨r12, r3, hok, rfl, ⟨r1, r2, hok', rfl, ha, hb⟩, hc⟩ := h
  refine ⟨r1, Res.add r2 r3, ?_, Res.add_assoc _ _ _, ha, r2, r3, Res.ok_of_add_right hok' hok, rfl, hb, hc⟩
  exact Res.ok_symm (Res.ok_add (Res.ok_symm hok') (Res.ok_symm (Res.ok_of_add_left hok)))
theorem star_assoc' {A B C : HProp} {r : Res} (h : star A (star B C) r) : star (star A B) C r :=
  star_comm (star_assoc (star_comm (star_assoc (star_comm h))))
theorem star_mono {A A' B B' : HProp} {r : Res} (ha : ∀ r, A r → A' r) (hb : ∀ r, B r → B' r) (h : star A B r) : star A' B' r := by
  obtain ⟨r1, r2, hok, he, h1, h2⟩ := h
  exact ⟨r1, r2, hok, he, ha _ h1, hb _ h2⟩
theorem star_swap {A B C : HProp} {r : Res} (h : star A (star B C) r) : star B (star A C) r :=
  star_assoc (star_mono (fun _ => star_comm) (fun _ h => h) (star_assoc' h))

/-! ### what holds of a world -/
def Holds (w : World) (A : HProp) : Prop := ∃ r, Res.on r w ∧ A r
theorem Holds.mono {w : World} {A B : HProp} (h : Holds w A) (hab : ∀ r, A r → B r) : Holds w B := by
  obtain ⟨r, hr, ha⟩ := h; exact ⟨r, hr, hab r ha⟩
theorem Res.on_left {r s : Res} {w : World} (h : Res.on (Res.add r s) w) : Res.on r w := fun b m o hb => h b m o (Res.add_left hb)
theorem Res.on_right {r s : Res} {w : World} (hok : Res.ok r s) (h : Res.on (Res.add r s) w) : Res.on s w := fun b m o hb => h b m o (Res.add_right hok hb)
theorem Holds.left {w : World} {A B : HProp} (h : Holds w (star A B)) : Holds w A := by
  obtain ⟨r, hr, r1, r2, hok, rfl, ha, hb⟩ := h; exact ⟨r1, Res.on_left hr, ha⟩
theorem Holds.right {w : World} {A B : HProp} (h : Holds w (star A B)) : Holds w B := by
  obtain ⟨r, hr, r1, r2, hok, rfl, ha, hb⟩ := h; exact ⟨r2, Res.on_right hok hr, hb⟩

/-- the world, but for its memory and its count of draws -/
structure Same (w w' : World) : Prop where
  os : w'.os = w.os
  tape : w'.tape = w.tape
  output : w'.output = w.output
  size : w.heap.size ≤ w'.heap.size
theorem Same.refl (w : World) : Same w w := ⟨rfl, rfl, rfl, Nat.le_refl _⟩
theorem Same.trans {a b c : World} (h : Same a b) (k : Same b c) : Same a c :=
  ⟨k.os.trans h.os, k.tape.trans h.tape, k.output.trans h.output, Nat.le_trans h.size k.size⟩

/-! ### the atoms -/
/-- a block, whole -/
def pt (m : Bool) (b : Nat) (o : Obj) : HProp := fun r => r b = some (m, o)
/-- a block of cells -/
def cel (m : Bool) (b : Nat) (T : TypeId) (vs : List Value) : HProp := fun r => ∃ fr, (m = true → fr = (0, 0)) ∧ r b = some (m, .cells vs.toArray T fr)

theorem Holds.pt {w : World} {m : Bool} {b : Nat} {o : Obj} (h : Holds w (Sl.pt m b o)) : w.heap[b]? = some o := by
  obtain ⟨r, hr, h⟩ := h; exact hr _ _ _ h
theorem Holds.cel {w : World} {m : Bool} {b : Nat} {T : TypeId} {vs : List Value} (h : Holds w (Sl.cel m b T vs)) :
    ∃ fr, (m = true → fr = (0, 0)) ∧ w.heap[b]? = some (.cells vs.toArray T fr) := by
  obtain ⟨r, hr, fr, hf, h⟩ := h; exact ⟨fr, hf, hr _ _ _ h⟩
theorem Holds.cell {w : World} {m : Bool} {b : Nat} {T : TypeId} {vs : List Value} (h : Holds w (Sl.cel m b T vs)) {off : Nat} {v : Value}
    (hv : vs[off]? = some v) : w.cell? ⟨b, off, none⟩ = some v := by
  obtain ⟨fr, _, hb⟩ := h.cel
  unfold World.cell?
  simp [hb, hv]
theorem Holds.free {w : World} {b : Nat} {T : TypeId} {vs : List Value} (h : Holds w (Sl.cel true b T vs)) (off : Nat) : w.frozen? ⟨b, off, none⟩ = false := by
  obtain ⟨fr, hf, hb⟩ := h.cel
  have := hf rfl
  subst this
  unfold World.frozen?
  simp [hb]
theorem Holds.shape {w : World} {m : Bool} {b : Nat} {T : TypeId} {vs : List Value} (h : Holds w (Sl.cel m b T vs)) : w.shape? b = some (T, vs.length) := by
  obtain ⟨fr, _, hb⟩ := h.cel
  unfold World.shape?
  simp [hb]

/-- An owned block gets another content. -/
theorem Holds.put {w w' : World} {b : Nat} {o o' : Obj} {F : HProp} (h : Holds w (star (Sl.pt true b o) F))
    (hw : ∀ k, w'.heap[k]? = if k = b then some o' else w.heap[k]?) : Holds w' (star (Sl.pt true b o') F) := by
  obtain ⟨r, hr, r1, r2, hok, rfl, ha, hb⟩ := h
  have h2 : r2 b = none := by
    cases h2 : r2 b with
    | none => rfl
    | some y => have := (hok b _ _ ha h2).1; simp at this
  refine ⟨Res.add (fun k => if k = b then some (true, o') else none) r2, ?_, _, r2, ?_, rfl, by simp [Sl.pt], hb⟩
  · intro k m x hk
    rcases Res.add_some hk with h | ⟨_, h⟩
    · by_cases hkb : k = b
      · subst hkb; simp at h; rw [hw, if_pos rfl, h.2]
      · simp [hkb] at h
    · have hkb : k ≠ b := fun e => by rw [e, h2] at h; cases h
      rw [hw, if_neg hkb]
      exact hr _ _ _ (Res.add_right hok h)
  · intro k x y hx hy
    by_cases hkb : k = b
    · subst hkb; rw [h2] at hy; cases hy
    · simp [hkb] at hx
/-- A new block. -/
theorem Holds.new {w : World} {o : Obj} {F : HProp} (h : Holds w F) : Holds { w with heap := w.heap.push o } (star (Sl.pt true w.heap.size o) F) := by
  obtain ⟨r, hr, hF⟩ := h
  have h2 : r w.heap.size = none := by
    cases h2 : r w.heap.size with
    | none => rfl
    | some y => have := hr _ y.1 y.2 h2; simp at this
  refine ⟨Res.add (fun k => if k = w.heap.size then some (true, o) else none) r, ?_, _, r, ?_, rfl, by simp [Sl.pt], hF⟩
  · intro k m x hk
    rcases Res.add_some hk with h | ⟨_, h⟩
    · by_cases hkb : k = w.heap.size
      · subst hkb; simp at h; simp [h.2]
      · simp [hkb] at h
    · have := hr _ _ _ h
      have hlt : k < w.heap.size := by
        rcases Nat.lt_or_ge k w.heap.size with h' | h'
        · exact h'
        · rw [Array.getElem?_eq_none h'] at this; cases this
      rw [Array.getElem?_push, if_neg (by omega)]; exact this
  · intro k x y hx hy
    by_cases hkb : k = w.heap.size
    · subst hkb; rw [h2] at hy; cases hy
    · simp [hkb] at hx
/-- What nobody else has may be shared from now on. -/
theorem Holds.share {w : World} {b : Nat} {o : Obj} {F : HProp} (h : Holds w (star (Sl.pt true b o) F)) : Holds w (star (Sl.pt false b o) F) := by
  obtain ⟨r, hr, r1, r2, hok, rfl, ha, hb⟩ := h
  have h2 : r2 b = none := by
    cases h2 : r2 b with
    | none => rfl
    | some y => have := (hok b _ _ ha h2).1; simp at this
  refine ⟨Res.add (fun k => if k = b then some (false, o) else none) r2, ?_, _, r2, ?_, rfl, by simp [Sl.pt], hb⟩
  · intro k m x hk
    rcases Res.add_some hk with h | ⟨_, h⟩
    · by_cases hkb : k = b
      · subst hkb; simp at h; rw [← h.2]; exact hr _ _ _ (Res.add_left ha)
      · simp [hkb] at h
    · exact hr _ _ _ (Res.add_right hok h)
  · intro k x y hx hy
    by_cases hkb : k = b
    · subst hkb; rw [h2] at hy; cases hy
    · simp [hkb] at hx
/-- What is shared may be had twice. -/
theorem pt_dup {b : Nat} {o : Obj} {r : Res} (h : pt false b o r) : star (pt false b o) (pt false b o) r := by
  refine ⟨r, fun k => if k = b then some (false, o) else none, ?_, ?_, h, by simp [Sl.pt]⟩
  · intro k x y hx hy
    by_cases hkb : k = b
    · subst hkb; simp at hy; subst hy; rw [h] at hx; simp at hx; subst hx; exact ⟨rfl, rfl⟩
    · simp [hkb] at hy
  · funext k
    by_cases hkb : k = b
    · subst hkb; rw [Res.add_left h, h]
    · unfold Res.add; simp [hkb]
theorem cel_pt {m : Bool} {b : Nat} {T : TypeId} {vs : List Value} {r : Res} (h : cel m b T vs r) : ∃ fr, (m = true → fr = (0, 0)) ∧ pt m b (.cells vs.toArray T fr) r := h
theorem cel_of_pt {m : Bool} {b : Nat} {T : TypeId} {vs : List Value} {r : Res} (h : pt m b (.cells vs.toArray T (0, 0)) r) : cel m b T vs r := ⟨(0, 0), fun _ => rfl, h⟩
theorem cel_dup {b : Nat} {T : TypeId} {vs : List Value} {r : Res} (h : cel false b T vs r) : star (cel false b T vs) (cel false b T vs) r := by
  obtain ⟨fr, _, h⟩ := h
  exact star_mono (fun _ h => ⟨fr, fun h => by simp at h, h⟩) (fun _ h => ⟨fr, fun h => by simp at h, h⟩) (pt_dup h)
theorem cel_own {b : Nat} {T : TypeId} {vs : List Value} {r : Res} (h : cel true b T vs r) : pt true b (.cells vs.toArray T (0, 0)) r := by
  obtain ⟨fr, hf, h⟩ := h
  have := hf rfl; subst this; exact h

theorem Holds.setCell {w : World} {b : Nat} {T : TypeId} {vs : List Value} {F : HProp} (h : Holds w (star (Sl.cel true b T vs) F)) (off : Nat) (v : Value) :
    Holds (w.setCell ⟨b, off, none⟩ v) (star (Sl.cel true b T (vs.set off v)) F) := by
  have h' := h.mono (fun _ => star_mono (fun _ => cel_own) (fun _ h => h))
  have hb := h'.left.pt
  refine (h'.put (o' := .cells (vs.set off v).toArray T (0, 0)) ?_).mono (fun _ => star_mono (fun _ => cel_of_pt) (fun _ h => h))
  intro k
  simp only [World.setCell, Array.getElem?_modify]
  by_cases hk : b = k
  · subst hk; simp [hb]
  · rw [if_neg hk, if_neg (fun e => hk e.symm)]
end Go.Sl
