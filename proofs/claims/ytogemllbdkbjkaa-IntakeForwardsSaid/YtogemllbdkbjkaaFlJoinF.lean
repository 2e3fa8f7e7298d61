/- Pieces put together, as data: the joiner of an intake that holds no parts. -/
import Derived.Test.YtogemllbdkbjkaaFlKeys
import Derived.Test.YtogemllbdkbjkaaFlSpanF
import Derived.Test.YtogemllbdkbjkaaSlDel
set_option linter.unusedVariables false
set_option linter.unusedSimpArgs false
namespace Go.Fl
open Go Go.Sl Go.Proofs
abbrev Key := UInt16 × Bool × UInt32
abbrev encK (k : Key) : Value := .agg #[vU16 k.1, .bool k.2.1, vU32 k.2.2]
abbrev encU (k : Int) : Value := .int .u32 k
abbrev encH (k : Int) : Value := .int .u16 k
theorem check123n (n : Nat) (e : Bool) (k : Key) (w : World) : (Instr.checkKey e (n + 1 + 1) 123 (encK k)).run Try.prog w = .ok () w := by
  rw [Instr.checkKey]
  simp only [Sem.run_bind, Try.runUnderlying123, Result.andThen_ok]
  simp [go_sem, Instr.checkKey, Try.runUnderlying30, Try.runUnderlying4, Try.runUnderlying22]
theorem eq123n (n : Nat) (k j : Key) (w : World) : (Op.equalIn (n + 1 + 1) 123 (encK k) (encK j)).run Try.prog w = .ok (decide (j = k)) w := by
  rw [run_equalIn_agg w _ 123 _ _ (by simp [Program.fieldsOf, Try.underlying123]) Try.stoodInHeld123]
  simp [Program.fieldsOf, Try.underlying123, go_sem, Try.underlying30, Try.underlying4, Try.underlying22]
  obtain ⟨a, b, c⟩ := k
  obtain ⟨d, e, f⟩ := j
  have h : ((a.toNat : Int) = d.toNat) ↔ a = d := ⟨fun h => UInt16.toNat_inj.1 (by omega), fun h => h ▸ rfl⟩
  have h' : ((c.toNat : Int) = f.toNat) ↔ c = f := ⟨fun h => UInt32.toNat_inj.1 (by omega), fun h => h ▸ rfl⟩
  by_cases h1 : a = d
  · subst h1
    by_cases h2 : b = e
    · subst h2
      by_cases h3 : c = f
      · subst h3; simp
      · have h4 : ¬ f = c := fun e => h3 e.symm
        have h5 : ¬ ((c.toNat : Int) = f.toNat) := fun e => h3 (h'.1 e)
        simp [h4, h5]
    · have h4 : ¬ e = b := fun e => h2 e.symm
      simp [h2, h4]
  · have h3 : ¬ d = a := fun e => h1 e.symm
    have h4 : ¬ ((a.toNat : Int) = d.toNat) := fun e => h1 (h.1 e)
    simp [h3, h4]
theorem sameK (n : Nat) (k : Key) : Instr.sameBits (n + 1 + 1) (encK k) (encK k) = true := by simp [Instr.sameBits]
theorem key123 : KeyLaw Try.prog 123 encK := KeyLaw.agg Try.underlying123 (fun e k w => check123n 9998 e k w) (fun k j w => eq123n 9998 k j w) fun k => by
  exact sameK 9998 k
theorem key22 : KeyLaw Try.prog 22 encU := KeyLaw.int Try.underlying22
theorem key30 : KeyLaw Try.prog 30 encH := KeyLaw.int Try.underlying30
structure Msg where
  stream : UInt16
  loose : Bool
  mid : UInt32
  ppid : UInt32
  ba : Option Addr
  bc : Nat
  body : List UInt8
abbrev Msg.val (m : Msg) : Value := .slice m.ba m.body.length m.bc
abbrev msgv (m : Msg) : List Value := [vU16 m.stream, .bool m.loose, vU32 m.mid, vU32 m.ppid, m.val]
def msgc (l : List Msg) : List Value := l.flatMap msgv
theorem msgc_length (l : List Msg) : (msgc l).length = l.length * 5 := by
  induction l with
  | nil => rfl
  | cons g l ih => simp [msgc] at ih ⊢; omega
theorem msgc_snoc (l : List Msg) (m : Msg) : msgc l ++ msgv m = msgc (l ++ [m]) := by simp [msgc]
theorem msgc_at : ∀ {l : List Msg} {i : Nat} {m : Msg}, l[i]? = some m → ((msgc l).drop (i * 5)).take 5 = msgv m
  | _ :: _, 0, _, h => by simp only [List.getElem?_cons_zero, Option.some.injEq] at h; subst h; rfl
  | x :: l, i + 1, m, h => by
    simp only [List.getElem?_cons_succ] at h
    have ih := msgc_at h
    rw [show (i + 1) * 5 = i * 5 + 5 by omega]
    exact ih
abbrev isB (m : Msg) : HProp := byo m.val m.body
def isBs : List Msg → HProp
  | [] => emp
  | m :: l => star (isB m) (isBs l)
theorem Mono.isBs : ∀ {l : List Msg}, Mono (isBs l)
  | [] => Mono.emp
  | _ :: _ => Mono.star Mono.sl
theorem isBs_snoc : ∀ {l : List Msg} {m : Msg}, ∀ r, star (isB m) (isBs l) r → isBs (l ++ [m]) r
  | [], m, r, h => h
  | x :: l, m, r, h => star_mono (fun _ h => h) (isBs_snoc (l := l) (m := m)) (star_swap h)
abbrev jcel (b r1 r2 r3 r4 : Nat) (v : Value) : HProp := cel true b 118 [.bool true, .map (some r1), .map (some r2), .map (some r3), .map (some r4), v]
/-- a joiner in memory: what follows next, what is ready -/
def isJ (b : Nat) (nx : List (Int × Value)) (ms : List Msg) : HProp := ex fun (x : Nat × Nat × Nat × Nat × Option Addr × Nat) =>
  star (jcel b x.1 x.2.1 x.2.2.1 x.2.2.2.1 (.slice x.2.2.2.2.1 ms.length x.2.2.2.2.2)) (star (mapA encK x.1 []) (star (mapA encU x.2.1 []) (star (mapA encK x.2.2.1 []) (star (mapA encH x.2.2.2.1 nx)
    (star (sl true 5 (.slice x.2.2.2.2.1 ms.length x.2.2.2.2.2) ms.length (msgc ms)) (isBs ms))))))
theorem G.openJ {w0 : World} {n : Nat} {L : Env} {hs : List HProp} {F : HProp} {k : Act → World → Prop} {b : Nat} {nx : List (Int × Value)} {ms : List Msg}
    (h : ∀ r1 r2 r3 r4 a c, G w0 n L (jcel b r1 r2 r3 r4 (.slice a ms.length c) :: mapA encK r1 [] :: mapA encU r2 [] :: mapA encK r3 [] :: mapA encH r4 nx :: sl true 5 (.slice a ms.length c) ms.length (msgc ms) :: isBs ms :: hs) F k) : G w0 n L (isJ b nx ms :: hs) F k :=
  G.ex fun x => G.star7 (h x.1 x.2.1 x.2.2.1 x.2.2.2.1 x.2.2.2.2.1 x.2.2.2.2.2)
theorem entJ {b r1 r2 r3 r4 c n : Nat} {a : Option Addr} {nx : List (Int × Value)} {ms : List Msg} {cs : List Value} {h0 h1 h2 h3 h4 h5 h6 h7 : List HProp} (e1 : Ent h0 (jcel b r1 r2 r3 r4 (.slice a n c)) h1) (e2 : Ent h1 (mapA encK r1 []) h2) (e3 : Ent h2 (mapA encU r2 []) h3)
    (e4 : Ent h3 (mapA encK r3 []) h4) (e5 : Ent h4 (mapA encH r4 nx) h5) (e6 : Ent h5 (sl true 5 (.slice a n c) n cs) h6) (e7 : Ent h6 (isBs ms) h7) (hn : n = ms.length) (hc : cs = msgc ms) : Ent h0 (isJ b nx ms) h7 := by
  subst hn; subst hc
  exact (Ent.star e1 (Ent.star e2 (Ent.star e3 (Ent.star e4 (Ent.star e5 (Ent.star e6 e7)))))).imp fun q hq => ⟨(r1, r2, r3, r4, a, c), hq⟩
/-- what comes next in a stream -/
def nextOf (nx : List (Int × Value)) (s : UInt16) (q : UInt32) : Prop := (alook nx (s.toNat : Int)).getD (.int .u32 0) = vU32 q
theorem alook_aset {κ : Type} [DecidableEq κ] : ∀ (l : List (κ × Value)) (k : κ) (v : Value), alook (aset l k v) k = some v
  | [], k, v => by simp [aset, alook]
  | (j, u) :: l, k, v => by
    simp only [aset]
    split
    · rename_i e; subst e; simp [alook]
    · rename_i e; simp only [alook]; rw [if_neg e]; exact alook_aset l k v
theorem nextOf_aset (nx : List (Int × Value)) (s : UInt16) (q : UInt32) : nextOf (aset nx (s.toNat : Int) (vU32 q)) s q := by unfold nextOf; rw [alook_aset]; rfl
def heldM (k : Nat) (ms : List Msg) : Int := (((ms.take k).map fun m => m.body.length).sum : Nat)
theorem heldM_succ {ms : List Msg} {k : Nat} {m : Msg} (h : ms[k]? = some m) : heldM (k + 1) ms = heldM k ms + (m.body.length : Int) := by
  simp [heldM, List.take_add_one, h]
theorem heldM_le {ms : List Msg} (hb : ∀ m ∈ ms, m.body.length ≤ 70000) : ∀ k, k ≤ ms.length → 0 ≤ heldM k ms ∧ heldM k ms ≤ 70000 * k
  | 0, _ => by simp [heldM]
  | k + 1, hk => by
    obtain ⟨p, hp⟩ : ∃ p, ms[k]? = some p := ⟨ms[k]'(by omega), by simp⟩
    have ih := heldM_le hb k (by omega)
    have h1 := hb p (List.mem_of_getElem? hp)
    rw [heldM_succ hp]; omega
abbrev ckb (c : Ck) (v : Value) : List Value := ckv c nilS nilS nilS nilS v
end Go.Fl
namespace Go.Fl
open Go Go.Sl
def nxP (nx : List (Int × Value)) (c : Ck) : List (Int × Value) := if c.loose then nx else aset nx (c.stream.toNat : Int) (vU32 (c.mid + 1))
abbrev msgOf (c : Ck) (a : Option Addr) (k : Nat) (body : List UInt8) : Msg := ⟨c.stream, c.loose, c.mid, c.ppid, a, k, body⟩
theorem less_self (q : UInt32) : less q q = false := by simp [less]
end Go.Fl
