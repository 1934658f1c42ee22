/-
  Engine, part S: guards of chapter 52: their cells; which towers are due.
-/
import Derived.Test.YtddckbhlfeegoaaEngR
namespace Go.Eng
open Go
set_option linter.unusedVariables false
set_option linter.unusedSimpArgs false
/-- A guard's cells. -/
@[reducible] def gdL (nc : BitVec 64) (tw nd : Nat) (fr to' : Int) (nt : Bool) (h : BitVec 64) (nb : Int) (bx : Value) (sd : List Int) : List Value :=
  U8 (bt nc 0) :: U8 (bt nc 1) :: U8 (bt nc 2) :: U8 (bt nc 3) :: U8 (bt nc 4) :: U8 (bt nc 5) :: U8 (bt nc 6) :: U8 (bt nc 7) :: NV tw :: NV nd :: I64 fr :: I64 to' :: .bool nt ::
    U8 (bt h 0) :: U8 (bt h 1) :: U8 (bt h 2) :: U8 (bt h 3) :: U8 (bt h 4) :: U8 (bt h 5) :: U8 (bt h 6) :: U8 (bt h 7) :: I64 nb :: bx :: sd.map I64
theorem gd_get (nc : BitVec 64) (tw nd : Nat) (fr to' : Int) (nt : Bool) (h : BitVec 64) (nb : Int) (bx : Value) (sd : List Int) (i : Nat) (hi : i < sd.length) : ((gdL nc tw nd fr to' nt h nb bx sd).drop (0 + 23 + i * 1))[0]? = some (I64 sd[i]) := by
  rw [show 0 + 23 + i * 1 = 23 + i by omega, ← List.drop_drop, List.getElem?_drop, Nat.add_zero]
  show (sd.map I64)[i]? = _
  rw [List.getElem?_map, List.getElem?_eq_getElem hi]; rfl
theorem gd_set (nc : BitVec 64) (tw nd : Nat) (fr to' : Int) (nt : Bool) (h : BitVec 64) (nb : Int) (bx : Value) (sd : List Int) (i : Nat) (v : Int) (hi : i < sd.length) : splice (gdL nc tw nd fr to' nt h nb bx sd) (0 + 23 + i * 1) [I64 v] = gdL nc tw nd fr to' nt h nb bx (sd.set i v) := by
  rw [splice_one _ _ _ (by simp; omega), show 0 + 23 + i * 1 = i + 23 by omega]
  simp only [gdL, List.set_cons_succ, List.map_set]
section
variable {P : Program} {n : Nat} {w0 : World} {mods : List Nat} {E : Env} {L : List Ent} {dst : Option Tmp} {T t ty : TypeId} {pos : String} {after : Array Edge} {g : Option (Nat × Bool)} {x y z : Operand}
/-- The head of an array. -/
theorem val_sliceArrH {b o len size h : Nat} {q : IntKind} {j : Int} (hk : arrOf P t = some (len, size)) (hx : Env.ev E x = some (.pointer (some ⟨b, o, none⟩))) (hy : Env.ev E y = some (.int q j)) (hj : j = (h : Int)) (hl : h ≤ len) :
    Val P n w0 mods E L ⟨dst, .slice t x none (some y) none, T, pos, after, g⟩ (.slice (some ⟨b, o, none⟩) h len) := fun _ w hf _ => by
  subst hj
  obtain ⟨e, hu, i, hi, hs⟩ := arrOf_spec hk
  have h2 : ((h : Nat) : Int) ≤ (len : Int) := by omega
  simp [execOp, hf.eval hx, hf.eval hy, Instr.sliceAt, Instr.sureAddr, Instr.sliceBounds, Instr.sliceBound, asIntOf, run_underlying hu, sizeOf, typeInfo, hi, hs, add_zero, hl]
end
/-- Which of the first towers are due, of which said what; whether it is safe. -/
def dueN (nt : Bool) (nb : Int) (sd : List Int) (k : Nat) : List Nat := if nt then (List.range k).filter fun i => decide (¬ sd.getD i 0 = nb) else []
theorem due_in (nb : Int) (sd : List Int) (k : Nat) (hk : k < sd.length) (h : ¬ sd[k] = nb) : dueN true nb sd (k + 1) = dueN true nb sd k ++ [k] := by
  unfold dueN; rw [if_pos rfl, if_pos rfl, List.range_succ, List.filter_append]; simp [List.getD, hk, h]
theorem due_out (nb : Int) (sd : List Int) (k : Nat) (hk : k < sd.length) (h : sd[k] = nb) : dueN true nb sd (k + 1) = dueN true nb sd k := by
  unfold dueN; rw [if_pos rfl, if_pos rfl, List.range_succ, List.filter_append]; simp [List.getD, hk, h]
theorem due_len (nt : Bool) (nb : Int) (sd : List Int) (k : Nat) : (dueN nt nb sd k).length ≤ k := by
  unfold dueN; split
  · refine Nat.le_trans (List.length_filter_le _ _) ?_; simp
  · exact Nat.zero_le _
def safeN (tw nd : Nat) (nt : Bool) (nb : Int) (sd : List Int) : Bool := !nt || decide (nd ≤ tw - (dueN nt nb sd tw).length)
end Go.Eng
