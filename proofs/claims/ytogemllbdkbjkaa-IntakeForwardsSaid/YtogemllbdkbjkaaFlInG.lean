/- The gaps of a set, and a report, as data. -/
import Derived.Test.YtogemllbdkbjkaaFlInF
import Derived.Test.YtogemllbdkbjkaaFlTypes
import Derived.Test.YtogemllbdkbjkaaSlElem
import Derived.Test.YtogemllbdkbjkaaSlSub
import Derived.Laws.IdiomStrings
set_option linter.unusedVariables false
set_option linter.unusedSimpArgs false
namespace Go.Sl
open Go Go.Proofs
section
variable {P : Program} {L : Env} {hs hs' : List HProp} {dst : Option Tmp} {ty : TypeId} {pos : String} {aft : Array Edge} {g : Option (Nat × Bool)}
theorem Yld.indexE2 {m : Bool} {x i : Operand} {t : TypeId} {elem k len l2 cap : Nat} {a : Option Addr} {cs : List Value} {kk : IntKind} {j : Int} (hu : ∀ w, (underlying t).run P w = .ok (.slice elem) w) (hz : ∀ w, (sizeOf elem).run P w = .ok k w)
    (hx : L.ev x = some (.slice a l2 cap)) (hi : L.ev i = some (.int kk j)) (hp : Pick hs (Sl.sl m k (.slice a len cap) len cs) hs') (hk : 0 < k) (h0 : 0 ≤ j) (h1 : j < l2) (h2 : l2 ≤ len) :
    Yld P ⟨dst, .indexAddr t x i, ty, pos, aft, g⟩ L hs (eptr a (j.toNat * k)) := by
  intro ρ w F hev hh
  obtain ⟨r, hr, r1, r2, hok, rfl, hsl, hF⟩ := hh.mono hp.to
  have hl := sl_len hsl
  have hpos : 0 < cs.length := by rw [hl]; exact Nat.mul_pos (by omega) hk
  obtain ⟨b, T, o, pre, post, rfl, _⟩ := sl_open hsl hpos
  have := Yld.indexAddr (P := P) (L := L) (hs := hs) (dst := dst) (ty := ty) (pos := pos) (aft := aft) (g := g) hu hz hx hi h0 h1 ρ w F hev hh
  rw [this]; simp [eptr, addr_add]
end
section
variable {P : Program} {w0 : World} {n : Nat} {L : Env} {hs R : List HProp} {F : HProp} {ops : Array Oper} {Q : Exit → Act → World → Prop} {o : Ord} {m : Bool} {e : Nat} {v : Value} {len : Nat} {cs : List Value}
theorem GO.slv (h : ∀ a cap, v = .slice a len cap → len ≤ cap → cs.length = len * e → GO P w0 n L (sl m e v len cs :: hs) F R ops Q o) : GO P w0 n L (sl m e v len cs :: hs) F R ops Q o := fun a w s hS =>
  G.slv (k := fun a w => Holds w (Hs R emp) → wpOrd P ops Q (fun w => Holds w (Hs R emp)) o a w) (fun x y h1 h2 h3 a w s hS => h x y h1 h2 h3 a w s hS) a w s hS
theorem GX.slv (h : ∀ a cap, v = .slice a len cap → len ≤ cap → cs.length = len * e → GX P w0 n L (sl m e v len cs :: hs) F R ops Q o) : GX P w0 n L (sl m e v len cs :: hs) F R ops Q o := fun a w s =>
  G.slv (k := fun a w => wpOrd P ops Q (fun w => Holds w (Hs R emp)) o a w) (fun x y h1 h2 h3 a w s => h x y h1 h2 h3 a w s) a w s
end
end Go.Sl
namespace Go.Fl
open Go Go.Sl Go.Proofs
def r16 (r : Row) : UInt16 × UInt16 := (r.1.toUInt16, r.2.toUInt16)
abbrev gapK (rows : List Row) (i : Nat) : List (UInt16 × UInt16) := (rows.take i).map r16
theorem gapK_len {rows : List Row} {i : Nat} (h : i ≤ rows.length) : (gapK rows i).length = i := by simp; omega
theorem gapK_succ {rows : List Row} {i : Nat} {r : Row} (h : rows[i]? = some r) : gapK rows (i + 1) = gapK rows i ++ [r16 r] := by
  simp [gapK, List.take_add_one, h]
theorem gpc_snoc (l : List (UInt16 × UInt16)) (g : UInt16 × UInt16) : gpc l ++ [vU16 g.1, vU16 g.2] = gpc (l ++ [g]) := by simp [gpc]
def winS (ms : List Msg) : UInt32 := UInt32.ofNat (((if 131072 - heldM ms.length ms > 0 then 131072 - heldM ms.length ms else 0) : Int) % 4294967296).toNat
abbrev ckS (s : Sp) (ms : List Msg) : Ck := { kind := 3, tsn := s.mark, window := winS ms }
abbrev gapN (s : Sp) : Nat := min 32 s.rows.length
abbrev gapA (s : Sp) (a : Option Addr) (c : Nat) : HProp := sl true 2 (.slice a (gapN s) c) (gapN s) (gpc (gapK s.rows (gapN s)))
end Go.Fl
namespace Go.Sl
open Go
section
variable {P : Program} {L : Env} {hs hs' : List HProp} {dst : Option Tmp} {ty : TypeId} {pos : String} {aft : Array Edge} {g : Option (Nat × Bool)}
theorem Yld.bytesStr {m : Bool} {x : Operand} {s d e : TypeId} {a : Option Addr} {cap : Nat} {l : List UInt8} (h1 : P.underlying s = some (.slice e)) (h2 : P.underlying e = some (.int .u8)) (h3 : P.underlying d = some .string)
    (hx : L.ev x = some (.slice a l.length cap)) {cs : List Value} (hp : Pick hs (Sl.sl m 1 (.slice a l.length cap) l.length cs) hs') (hcs : cs = l.map vU8) (hl : 0 < l.length) : Yld P ⟨dst, .convert s d x, ty, pos, aft, g⟩ L hs (.string ⟨l.toArray⟩) := by
  subst hcs
  intro ρ w F hev hh
  obtain ⟨r, hr, r1, r2, hok, rfl, hsl, hF⟩ := hh.mono hp.to
  obtain ⟨b, T, o, pre, post, rfl, hpre, _, _, _, hcel⟩ := sl_open hsl (show 0 < (l.map vU8).length by simpa using hl)
  have hc : Holds w (cel m b T (pre ++ l.map vU8 ++ post)) := ⟨_, Res.on_left hr, hcel⟩
  have := run_convert_bytes_back (P := P) w s d e ⟨b, o, none⟩ cap l h1 h2 h3 (fun j hj => by
    rw [addr_add]
    refine hc.cell ?_
    rw [List.append_assoc, List.getElem?_append_right (by omega), show o + j - pre.length = j by omega, List.getElem?_append_left (by simpa using hj)]
    simp [vU8, hj])
  simp only [execOp, hev x _ hx, Sem.run_bind, this, Result.andThen_ok]
  rfl
theorem Yld.eqlStr {x y : Operand} {t t' : TypeId} {a b : ByteArray} (hx : L.ev x = some (.string a)) (hy : L.ev y = some (.string b)) :
    Yld P ⟨dst, .binOp .eql t x y t', ty, pos, aft, g⟩ L hs (.bool (a.toList == b.toList)) := Yld.bin hx hy fun w => by
  simp [eqGuard, binOp, Op.stringOp, Sem.run_bind, Sem.run_pure]
end
end Go.Sl
