/-
  Engine, part U: plain laws of chapter 52.
-/
import Derived.Test.YtddckbhlfeegoaaEngT
namespace Go.Eng
open Go
set_option linter.unusedVariables false
set_option linter.unusedSimpArgs false
theorem umod_lt (a b : BitVec 64) (h : 0 < b.toNat) : (a % b).toNat < b.toNat := by rw [BitVec.toNat_umod]; exact Nat.mod_lt _ h
theorem ofNat_lt (p : Nat) (h : p < 18446744073709551616) : (BitVec.ofNat 64 p).toNat = p := by rw [BitVec.toNat_ofNat]; exact Nat.mod_eq_of_lt h
theorem ofNat_ne (p : Nat) (h : p < 18446744073709551616) (h0 : 0 < p) : BitVec.ofNat 64 p ≠ 0#64 := fun e => by
  have := congrArg BitVec.toNat e
  rw [ofNat_lt p h] at this
  simp at this; omega
/-- What was said by the first i, of whom said so who. -/
def sdW (k : Int) (l : List Bool) (i : Nat) : List Int := (List.range 16).map fun j => if j < i ∧ l.getD j false = true then k else -1
def dueW (l : List Bool) (i : Nat) : List Nat := (List.range i).filter fun j => !l.getD j false
theorem sdW_len (k : Int) (l : List Bool) (i : Nat) : (sdW k l i).length = 16 := by simp [sdW]
theorem sdW_get (k : Int) (l : List Bool) (i j : Nat) (h : j < (sdW k l i).length) : (sdW k l i)[j] = if j < i ∧ l.getD j false = true then k else -1 := by simp [sdW]
theorem sdW_zero (k : Int) (l : List Bool) : List.replicate 16 (-1 : Int) = sdW k l 0 := by
  apply List.ext_getElem
  · simp [sdW]
  · intro j h1 h2
    rw [List.getElem_replicate, sdW_get, if_neg (fun e => absurd e.1 (Nat.not_lt_zero _))]
theorem sdW_in (k : Int) (l : List Bool) (i : Nat) (h : l.getD i false = true) : (sdW k l i).set i k = sdW k l (i + 1) := by
  apply List.ext_getElem
  · simp [sdW]
  · intro j h1 h2
    rw [List.getElem_set, sdW_get _ _ _ _ (by simpa using h1), sdW_get]
    by_cases e : i = j
    · subst e; rw [if_pos rfl, if_pos ⟨by omega, h⟩]
    · rw [if_neg e]
      by_cases h3 : j < i
      · have : j < i + 1 := by omega
        simp [h3, this]
      · have : ¬ j < i + 1 := by omega
        simp [h3, this]
theorem sdW_out (k : Int) (l : List Bool) (i : Nat) (h : ¬ l.getD i false = true) : sdW k l i = sdW k l (i + 1) := by
  apply List.ext_getElem
  · simp [sdW]
  · intro j h1 h2
    rw [sdW_get, sdW_get]
    by_cases e : i = j
    · subst e; rw [if_neg (fun e => h e.2), if_neg (fun e => h e.2)]
    · by_cases h3 : j < i
      · have : j < i + 1 := by omega
        simp [h3, this]
      · have : ¬ j < i + 1 := by omega
        simp [h3, this]
theorem dueW_in (l : List Bool) (i : Nat) (h : l.getD i false = true) : dueW l (i + 1) = dueW l i := by
  unfold dueW; rw [List.range_succ, List.filter_append, List.filter_cons_of_neg (by simpa using h), List.filter_nil, List.append_nil]
theorem dueW_out (l : List Bool) (i : Nat) (h : ¬ l.getD i false = true) : dueW l (i + 1) = dueW l i ++ [i] := by
  unfold dueW; rw [List.range_succ, List.filter_append, List.filter_cons_of_pos (by simpa using h), List.filter_nil]
theorem dueW_len (l : List Bool) (i : Nat) : (dueW l i).length ≤ i := by
  refine Nat.le_trans (List.length_filter_le _ _) ?_; simp
theorem dueN_sdW (k : Int) (l : List Bool) (n : Nat) (hn : n ≤ 16) (hk : 0 ≤ k) : dueN true k (sdW k l n) n = dueW l n := by
  unfold dueN dueW
  rw [if_pos rfl]
  refine List.filter_congr fun j hj => ?_
  have hj' : j < n := by simpa using hj
  have hlt : j < (sdW k l n).length := by rw [sdW_len]; omega
  rw [List.getD_eq_getElem?_getD, List.getElem?_eq_getElem hlt, Option.getD_some, sdW_get]
  by_cases h : l.getD j false = true
  · rw [if_pos ⟨hj', h⟩, h]; simp
  · rw [if_neg (fun e => h e.2)]
    have : ¬ (-1 : Int) = k := by omega
    simp at h
    simp [h, this]
theorem due_all (k : Int) (l : List Bool) (n m : Nat) (hn : n ≤ 16) (hk : 0 ≤ k) : (dueN true (k + 1) (sdW k l n) n).length = n := by
  unfold dueN
  rw [if_pos rfl, List.filter_eq_self.2, List.length_range]
  intro j hj
  have hj' : j < n := by simpa using hj
  have hlt : j < (sdW k l n).length := by rw [sdW_len]; omega
  rw [List.getD_eq_getElem?_getD, List.getElem?_eq_getElem hlt, Option.getD_some, sdW_get]
  split
  · have : ¬ k = k + 1 := by omega
    simp [this]
  · have : ¬ (-1 : Int) = k + 1 := by omega
    simp [this]
theorem begin_range (x y : Int) (p q : Nat) (hp : (BitVec.ofInt 64 x % 16#64).toNat + 1 = p) (hq : (BitVec.ofInt 64 y % BitVec.ofNat 64 p).toNat + 1 = q) : 1 ≤ p ∧ p ≤ 16 ∧ 1 ≤ q ∧ q ≤ p := by
  have h1 := umod_lt (BitVec.ofInt 64 x) 16#64 (by decide)
  have h2 : (16#64).toNat = 16 := rfl
  have h3 := umod_lt (BitVec.ofInt 64 y) (BitVec.ofNat 64 p) (by rw [ofNat_lt p (by omega)]; omega)
  rw [ofNat_lt p (by omega)] at h3
  omega
theorem safe_many (k : Int) (l : List Bool) (p q : Nat) (h2 : p ≤ 16) (hk : 0 ≤ k) : (safeN p q true k (sdW k l p) != decide ((q : Int) ≤ ((p - (dueW l p).length : Nat) : Int))) = false := by
  unfold safeN; rw [dueN_sdW k l p h2 hk]; simp
theorem safe_late (k : Int) (l : List Bool) (p q : Nat) (h2 : p ≤ 16) (hk : 0 ≤ k) (hq : 1 ≤ q) : safeN p q true (k + 1) (sdW k l p) = false := by
  unfold safeN; rw [due_all k l p p h2 hk]; simp; omega
theorem getD_lt {l : List Bool} {i : Nat} (h : i < l.length) : l.getD i false = l[i] := by simp [List.getD, h]
theorem getD_ge {l : List Bool} {i : Nat} (h : l.length ≤ i) : l.getD i false = false := by simp [List.getD, h]
theorem map_NV (l : List Nat) : l.map NV = (l.map fun (k : Nat) => (k : Int)).map I64 := by rw [List.map_map]; rfl
end Go.Eng
