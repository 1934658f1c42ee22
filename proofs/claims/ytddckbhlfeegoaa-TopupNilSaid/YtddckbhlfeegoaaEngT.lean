/-
  Engine, part T: appointments of chapter 51.
-/
import Derived.Test.YtddckbhlfeegoaaEngS
namespace Go.Eng
open Go
set_option linter.unusedVariables false
set_option linter.unusedSimpArgs false
/-- An appointment's cells: hint, number, box. -/
@[reducible] def apL (h : BitVec 64) (nb : Int) (bx : Value) : List Value :=
  U8 (bt h 0) :: U8 (bt h 1) :: U8 (bt h 2) :: U8 (bt h 3) :: U8 (bt h 4) :: U8 (bt h 5) :: U8 (bt h 6) :: U8 (bt h 7) :: I64 nb :: bx :: []
@[reducible] def apV (h : BitVec 64) (nb : Int) (bx : Value) : Value := .agg (apL h nb bx).toArray
@[reducible] def nilS : Value := .slice none 0 0
def hintW (n : BitVec 64) : BitVec 64 := hWord n [104, 105, 110, 116]
def keyW (n : BitVec 64) : BitVec 64 := hWord n [98, 111, 120]
/-- The document's guard. -/
@[reducible] def rgL (tw nd nb : Int) (cl : ByteArray) (hs : Value) (sl : Bool) (fr to' : Int) : List Value := [I64 tw, I64 nd, I64 nb, .string cl, hs, .bool sl, I64 fr, I64 to']
theorem row_apart {b1 b2 : Nat} {o2 : Obj} {T : TypeId} {fz : Nat × Nat} {cs : List Value} {w0 : World} {mods : List Nat} {L : List Ent} (ha : Apart L b1 (.cells cs.toArray T fz) b2 o2) : ∀ w, Inv w0 mods L w → Row w [b2] (some ⟨b1, 0, none⟩) cs :=
  row_of_own (junk := []) (by rw [List.append_nil]; exact ha)
theorem rep_snoc {α : Type} (k : Nat) (a : α) : List.replicate (k + 1) a = List.replicate k a ++ [a] := List.replicate_succ'
theorem Sees.at' {α : Type} {f : α → Value} {l : List α} {w0 : World} {mods : List Nat} {L : List Ent} {b o k : Nat} (h : Sees w0 mods L (some ⟨b, o, none⟩) (l.map f)) (hk : k < l.length) : Sees w0 mods L (some ⟨b, o + k * 1, none⟩) [f l[k]] := by
  have h9 := h.elem hk
  rwa [Option.map_some, add_mk] at h9
theorem eq_full {α : Type} {l r : List α} {n : Nat} (hn : l.length = n) (hm : r.length = n) (h : l.take n = r.take n) : l = r := by
  rwa [List.take_of_length_le (by omega), List.take_of_length_le (by omega)] at h
theorem eq_step {α : Type} {l r : List α} {k : Nat} (hk : k < l.length) (hm : k < r.length) (h : l.take k = r.take k) (e : l[k] = r[k]) : l.take (k + 1) = r.take (k + 1) := by
  rw [List.take_succ_eq_append_getElem hk, List.take_succ_eq_append_getElem hm, h, e]
theorem ne_at {α : Type} {l r : List α} {k : Nat} (hk : k < l.length) (hm : k < r.length) (e : ¬ l[k] = r[k]) : ¬ l = r := fun h => e (by subst h; rfl)
theorem ne_len {α : Type} {l r : List α} {n m : Nat} (hn : l.length = n) (hm : r.length = m) (e : ¬ (n : Int) = (m : Int)) : ¬ l = r := fun h => e (by subst h; omega)
theorem u8_of_nat {a b : UInt8} (h : (a.toNat : Int) = (b.toNat : Int)) : a = b := UInt8.toNat_inj.1 (by omega)
end Go.Eng
