/-
  Engine, part Wd: towers that are alike but for what their boxes hold.
-/
import Derived.Test.YtddckbhlfeegoaaEngWc
namespace Go.Eng
open Go
set_option linter.unusedVariables false
set_option linter.unusedSimpArgs false
@[reducible] def sk (a : App) : BitVec 64 × Int × Nat := (a.1, a.2.1, a.2.2.length)
def sumN (ml : List Am) (k : Nat) : Nat := ((ml.take k).map (·.bl.length)).sum
def sizeA (al : List App) : Nat := (al.map (·.2.2.length)).sum
theorem sumN_step {ml : List Am} {k : Nat} (hk : k < ml.length) : sumN ml (k + 1) = sumN ml k + ml[k].bl.length := by
  unfold sumN; rw [List.take_succ_eq_append_getElem hk, List.map_append, List.sum_append]; simp
theorem sumN_le {ml : List Am} (h : ∀ a ∈ ml, a.bl.length ≤ 32776) : ∀ k, sumN ml k ≤ k * 32776
  | 0 => by simp [sumN]
  | k + 1 => by
    by_cases hk : k < ml.length
    · rw [sumN_step hk]
      have h1 := sumN_le h k
      have h2 : ml[k].bl.length ≤ 32776 := h ml[k] (List.getElem_mem hk)
      rw [Nat.succ_mul]; exact Nat.add_le_add h1 h2
    · have e : sumN ml (k + 1) = sumN ml k := by unfold sumN; rw [List.take_of_length_le (by omega), List.take_of_length_le (by omega)]
      rw [e, Nat.succ_mul]; exact Nat.le_trans (sumN_le h k) (Nat.le_add_right _ _)
theorem sumN_all (ml : List Am) : sumN ml ml.length = sizeA (ml.map Am.app) := by
  unfold sumN sizeA; rw [List.take_length, List.map_map]; rfl
theorem hints_step {ml : List Am} {k : Nat} (hk : k < ml.length) : ((ml.take (k + 1)).map (·.h)).flatMap digL = ((ml.take k).map (·.h)).flatMap digL ++ digL ml[k].h := by
  rw [List.take_succ_eq_append_getElem hk, List.map_append, List.flatMap_append]; simp
theorem ixA_sk {ax ay : List App} (h : ax.map sk = ay.map sk) (d : BitVec 64) : ixA d ax = ixA d ay := by
  have key : ∀ al : List App, ixA d al = (al.map sk).findIdx? fun s => decide (s.1 = d) := fun al => by unfold ixA; rw [List.findIdx?_map]; rfl
  rw [key, key, h]
theorem at_sk {ax ay : List App} (h : ax.map sk = ay.map sk) (i : Nat) : (ax.getD i appD).2.1 = (ay.getD i appD).2.1 := by
  have key : ∀ al : List App, (al.getD i appD).2.1 = ((al.map sk).getD i (0#64, 0, 0)).2.1 := fun al => by
    rw [List.getD_eq_getElem?_getD, List.getD_eq_getElem?_getD, List.getElem?_map]
    cases al[i]? <;> rfl
  rw [key, key, h]
theorem len_sk {ax ay : List App} (h : ax.map sk = ay.map sk) : ax.length = ay.length := by
  have := congrArg List.length h; simpa using this
theorem take_sk {r : Nat} {ax ay : List App} (h : ax.map sk = ay.map sk) {a b : App} (hab : sk a = sk b) : takeE r ax a = takeE r ay b ∧ (takeA r ax a).map sk = (takeA r ay b).map sk := by
  obtain ⟨h1, n1, l1⟩ := a
  obtain ⟨h2, n2, l2⟩ := b
  simp only [sk, Prod.mk.injEq] at hab
  obtain ⟨rfl, rfl, hl⟩ := hab
  have e1 : takeE r ax (h1, n1, l1) = takeE r ay (h1, n1, l2) := by
    unfold takeE
    simp only [hl, ixA_sk h, at_sk h, len_sk h]
  refine ⟨e1, ?_⟩
  unfold takeA
  rw [e1]
  simp only [ixA_sk h]
  split
  · cases ixA h1 ay with
    | some i => simp only; rw [List.map_set, List.map_set, h]; simp [sk, hl]
    | none => simp only; rw [List.map_append, List.map_append, h]; simp [sk, hl]
  · exact h
theorem drop_sk {ax ay : List App} (h : ax.map sk = ay.map sk) (d : BitVec 64) : (dropA ax d).map sk = (dropA ay d).map sk := by
  unfold dropA
  rw [ixA_sk h]
  split
  · exact h
  · rw [← erase_map, ← erase_map, h]
theorem size_sk {ax ay : List App} (h : ax.map sk = ay.map sk) : sizeA ax = sizeA ay := by
  have key : ∀ al : List App, sizeA al = ((al.map sk).map (·.2.2)).sum := fun al => by unfold sizeA; rw [List.map_map]; rfl
  rw [key, key, h]
theorem hint_sk {ax ay : List App} (h : ax.map sk = ay.map sk) : ax.map (·.1) = ay.map (·.1) := by
  have key : ∀ al : List App, al.map (·.1) = (al.map sk).map (·.1) := fun al => by rw [List.map_map]; rfl
  rw [key, key, h]
structure Al2 (r : Nat) (ax ay : List App) : Prop where
  fx : Fit r ax
  fy : Fit r ay
  eq : ax.map sk = ay.map sk
theorem al2_start (r : Nat) : Al2 r [] [] := ⟨fit_nil _, fit_nil _, rfl⟩
theorem al2_drop {r : Nat} {ax ay : List App} (a : Al2 r ax ay) (h : BitVec 64) : Al2 r (dropA ax h) (dropA ay h) := ⟨drop_fit a.fx, drop_fit a.fy, drop_sk a.eq h⟩
theorem al2_take {r : Nat} {ax ay : List App} (a : Al2 r ax ay) {b c : App} (h : sk b = sk c) : Al2 r (takeA r ax b) (takeA r ay c) := ⟨take_fit a.fx, take_fit a.fy, (take_sk a.eq h).2⟩
theorem md_len {d : De} {w : List UInt8} (hw : w.length = d.s.size) : sk (mdA d) = sk (mdA ⟨d.dr, d.rw, d.nc, d.nb, ⟨w.toArray⟩⟩) := by
  have hsz : (ByteArray.mk w.toArray).size = d.s.size := by rw [size_mk, hw]
  simp only [sk, Prod.mk.injEq, true_and]
  unfold mdB
  simp only [hsz]
  split
  · show d.s.size = w.toArray.toList.length; simp [hw]
  · split
    · rename_i h
      rw [seal_len _ _ (show d.s.size ≤ 65536 by omega), seal_len _ _ (show w.toArray.toList.length ≤ 65536 by simp; omega)]
      show d.s.size + 8 = w.toArray.toList.length + 8
      simp [hw]
    · rfl
theorem set_len8 (w : List UInt8) (j : Nat) (v : UInt8) : (w.set j v).length = w.length := List.length_set
theorem set_sp (w : List UInt8) (j : Nat) (v : UInt8) (h : j < w.length) : splice (w.map U8) (0 + j * 1) [U8 v] = (w.set j v).map U8 := by
  rw [splice_one _ _ _ (by simpa using h), Nat.zero_add, Nat.mul_one, List.map_set]
end Go.Eng
