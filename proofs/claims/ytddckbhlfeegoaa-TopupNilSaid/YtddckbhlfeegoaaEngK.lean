/- Plain laws of chapter 18: sums of numbers, throws, the least number that throws a side, the order of seats. No condition but those stated. -/
import Derived.Test.YtddckbhlfeegoaaEngG
namespace Go.Eng
open Go
set_option linter.unusedVariables false
def sumB : List (BitVec 64) → BitVec 64
  | [] => 0#64
  | x :: l => x + sumB l
theorem sumB_append : ∀ a b : List (BitVec 64), sumB (a ++ b) = sumB a + sumB b
  | [], b => by show sumB b = 0#64 + sumB b; simp
  | x :: a, b => by show x + sumB (a ++ b) = x + sumB a + sumB b; rw [sumB_append a b, BitVec.add_assoc]
theorem sumB_snoc (l : List (BitVec 64)) (k : Nat) (hk : k < l.length) : sumB (l.take (k + 1)) = sumB (l.take k) + l[k] := by
  rw [List.take_succ_eq_append_getElem hk, sumB_append]
  show _ = _
  rw [show sumB [l[k]] = l[k] from by show l[k] + 0#64 = l[k]; simp]
theorem sumB_one (x : BitVec 64) : sumB [x] = x := by show x + 0#64 = x; simp
theorem sumB_turn (l : List (BitVec 64)) (k : Nat) : sumB (l.drop k ++ l.take k) = sumB l := by
  rw [sumB_append, BitVec.add_comm, ← sumB_append, List.take_append_drop]
theorem sumB_in (l : List (BitVec 64)) (k : Nat) (x : BitVec 64) : sumB (l.take k ++ [x] ++ l.drop k) = sumB l + x := by
  rw [sumB_append, sumB_append, sumB_one, BitVec.add_assoc, BitVec.add_comm x, ← BitVec.add_assoc, ← sumB_append, List.take_append_drop]

def Sides (n : Int) : Prop := 1 ≤ n ∧ n ≤ 2147483647
instance (n : Int) : Decidable (Sides n) := inferInstanceAs (Decidable (_ ∧ _))
def throwI (n : Int) (s : BitVec 64) : Int := if Sides n then 1 + ((s.toNat % n.toNat : Nat) : Int) else 0
def throwE (n : Int) : Int := if Sides n then 0 else 2
/-- The least number that throws side w + 1 of n, with a sum s. -/
def needN (n w s : Nat) : Nat := if s ≠ 0 ∧ 18446744073709551616 - s ≤ (w + n - s % n) % n then 18446744073709551616 - s + w else (w + n - s % n) % n
theorem out_hit (n w s : Nat) (hw : w < n) : (s + (w + n - s % n) % n) % n = w := by
  have hn : 0 < n := by omega
  have h1 : s % n < n := Nat.mod_lt _ hn
  rw [Nat.add_mod_mod]
  have h2 := Nat.mod_add_div s n
  rw [show s + (w + n - s % n) = w + n * (s / n + 1) from by rw [Nat.mul_add]; omega, Nat.add_mul_mod_self_left, Nat.mod_eq_of_lt hw]
theorem need_lt (n w s : Nat) (hw : w < n) (hn : n ≤ 2147483647) (hs : s < 18446744073709551616) : needN n w s < 18446744073709551616 := by
  have := Nat.mod_lt (w + n - s % n) (show 0 < n by omega)
  unfold needN; split <;> omega
theorem need_small (n w s : Nat) (hw : w < n) : needN n w s < 2 * n := by
  have := Nat.mod_lt (w + n - s % n) (show 0 < n by omega)
  unfold needN; split <;> omega
theorem need_hit (n w s : Nat) (hw : w < n) (hn : n ≤ 2147483647) (hs : s < 18446744073709551616) : (s + needN n w s) % 18446744073709551616 % n = w := by
  have h1 := Nat.mod_lt (w + n - s % n) (show 0 < n by omega)
  have h2 := out_hit n w s hw
  unfold needN; split
  · rw [show s + (18446744073709551616 - s + w) = 18446744073709551616 + w from by omega, Nat.add_mod_left, Nat.mod_eq_of_lt (show w < 18446744073709551616 by omega), Nat.mod_eq_of_lt hw]
  · rw [Nat.mod_eq_of_lt (show s + (w + n - s % n) % n < 18446744073709551616 by omega)]; exact h2
theorem far_apart (n a b w : Nat) (ha : a % n = w) (hb : b % n = w) (h : a < b) : a + n ≤ b := by
  have h1 := Nat.mod_add_div a n
  have h2 := Nat.mod_add_div b n
  have h3 : a / n < b / n := by
    apply Nat.lt_of_not_le; intro h3
    have := Nat.mul_le_mul_left n h3
    omega
  have := Nat.mul_le_mul_left n (show a / n + 1 ≤ b / n from h3)
  rw [Nat.mul_add, Nat.mul_one] at this
  omega
theorem need_least (n w s m : Nat) (hw : w < n) (hn : n ≤ 2147483647) (hs : s < 18446744073709551616) (hm : m < needN n w s) : (s + m) % 18446744073709551616 % n ≠ w := by
  have h1 := Nat.mod_lt (w + n - s % n) (show 0 < n by omega)
  have h2 := out_hit n w s hw
  intro h
  unfold needN at hm
  split at hm
  · rcases Nat.lt_or_ge m (18446744073709551616 - s) with h3 | h3
    · rw [Nat.mod_eq_of_lt (show s + m < 18446744073709551616 by omega)] at h
      have := far_apart n _ _ w h h2 (by omega)
      omega
    · rw [show s + m = (s + m - 18446744073709551616) + 18446744073709551616 from by omega, Nat.add_mod_right, Nat.mod_eq_of_lt (show s + m - 18446744073709551616 < 18446744073709551616 by omega), Nat.mod_eq_of_lt (show s + m - 18446744073709551616 < n by omega)] at h
      omega
  · rw [Nat.mod_eq_of_lt (show s + m < 18446744073709551616 by omega)] at h
    have := far_apart n _ _ w h h2 (by omega)
    omega
/-- The seats behind a mover, in order, the mover last: of the first k of them those that aren't gone. -/
def turnN (m n i : Nat) : Nat := (m + 1 + i) % n
def ordL (m : Nat) (g : List Bool) (k : Nat) : List Nat := ((List.range k).map (turnN m g.length)).filter fun s => !g.getD s true
theorem turnN_lt (m n i : Nat) (h : 0 < n) : turnN m n i < n := Nat.mod_lt _ h
theorem ordL_in (m : Nat) (g : List Bool) (k : Nat) (h : g[turnN m g.length k]? = some false) : ordL m g (k + 1) = ordL m g k ++ [turnN m g.length k] := by
  unfold ordL; rw [List.range_succ, List.map_append, List.filter_append]
  simp [List.getD, h]
theorem ordL_out (m : Nat) (g : List Bool) (k : Nat) (h : g[turnN m g.length k]? = some true) : ordL m g (k + 1) = ordL m g k := by
  unfold ordL; rw [List.range_succ, List.map_append, List.filter_append]
  simp [List.getD, h]
theorem turn_all (m n : Nat) (h : m < n) : (List.range n).map (turnN m n) = List.range' (m + 1) (n - (m + 1)) ++ List.range (m + 1) := by
  apply List.ext_getElem (by simp; omega)
  intro i h1 h2
  have hi : i < n := by simpa using h1
  rw [List.getElem_map, List.getElem_range]
  unfold turnN
  rcases Nat.lt_or_ge (m + 1 + i) n with h3 | h3
  · rw [Nat.mod_eq_of_lt h3, List.getElem_append_left (by simp; omega)]; simp
  · rw [Nat.mod_eq_sub_mod h3, Nat.mod_eq_of_lt (by omega), List.getElem_append_right (by simp; omega)]; simp; omega
theorem turn_perm (m n : Nat) (h : m < n) : List.Perm ((List.range n).map (turnN m n)) (List.range n) := by
  rw [turn_all m n h]
  refine List.perm_append_comm.trans ?_
  rw [List.range_eq_range', List.range_eq_range']
  have := List.range'_append_1 (s := 0) (m := m + 1) (n := n - (m + 1))
  rw [show 0 + (m + 1) = m + 1 from by omega, show m + 1 + (n - (m + 1)) = n from by omega] at this
  rw [this]
def cntN (g : List Bool) (k : Nat) : Nat := ((List.range k).filter fun s => !g.getD s true).length
theorem cntN_in (g : List Bool) (k : Nat) (h : g[k]? = some false) : cntN g (k + 1) = cntN g k + 1 := by
  unfold cntN; rw [List.range_succ, List.filter_append]; simp [List.getD, h]
theorem cntN_out (g : List Bool) (k : Nat) (h : g[k]? = some true) : cntN g (k + 1) = cntN g k := by
  unfold cntN; rw [List.range_succ, List.filter_append]; simp [List.getD, h]
theorem ord_perm (m : Nat) (g : List Bool) (h : m < g.length) : List.Perm (ordL m g g.length) ((List.range g.length).filter fun s => !g.getD s true) := (turn_perm m g.length h).filter _
theorem ord_len (m : Nat) (g : List Bool) (h : m < g.length) : (ordL m g g.length).length = cntN g g.length := (ord_perm m g h).length_eq
theorem count_one : ∀ {l : List Nat} {i : Nat}, l.Nodup → i ∈ l → l.count i = 1
  | a :: l, i, h, hi => by
    rw [List.nodup_cons] at h
    by_cases e : a = i
    · subst e; rw [List.count_cons_self, List.count_eq_zero_of_not_mem h.1]
    · rw [List.count_cons_of_ne e]
      exact count_one h.2 ((List.mem_cons.1 hi).resolve_left fun e2 => e e2.symm)
theorem ord_count (m : Nat) (g : List Bool) (h : m < g.length) (i : Nat) (hi : g[i]? = some false) : (ordL m g g.length).count i = 1 := by
  rw [(ord_perm m g h).count_eq]
  have hil : i < g.length := by
    have := List.getElem?_eq_some_iff.1 hi; exact this.1
  have hn : ((List.range g.length).filter fun s => !g.getD s true).Nodup := List.nodup_range.filter _
  have hm : i ∈ (List.range g.length).filter fun s => !g.getD s true := by
    rw [List.mem_filter]; exact ⟨List.mem_range.2 hil, by simp [List.getD, hi]⟩
  exact count_one hn hm
theorem ord_last (m : Nat) (g : List Bool) (h : m < g.length) (hm : g[m]? = some false) : ∃ l : List Nat, ordL m g g.length = l ++ [m] := by
  unfold ordL; rw [turn_all m g.length h, List.range_succ, ← List.append_assoc, List.filter_append]
  exact ⟨_, by rw [show List.filter (fun s => !g.getD s true) [m] = [m] from by simp [List.getD, hm]]⟩
theorem ordL_bound (m : Nat) (g : List Bool) (k : Nat) : (ordL m g k).length ≤ k := by
  unfold ordL; refine Nat.le_trans (List.length_filter_le _ _) ?_; simp
/-- A number as an int. -/
@[reducible] def NV (k : Nat) : Value := I64 (k : Int)
def pickL (g : List Bool) (l : List Nat) (s : Nat) : List Nat := if g.getD s true = true then l else l ++ [s]
theorem pick_out (g : List Bool) (l : List Nat) (s : Nat) (hs : s < g.length) (h : g[s] = true) : pickL g l s = l := by
  unfold pickL; rw [if_pos (by simp [List.getD, hs, h])]
theorem pick_in (g : List Bool) (l : List Nat) (s : Nat) (hs : s < g.length) (h : ¬ g[s] = true) : pickL g l s = l ++ [s] := by
  unfold pickL; rw [if_neg (by simp [List.getD, hs, h])]
theorem ord_step (m : Nat) (g : List Bool) (k : Nat) (h : 0 < g.length) : ordL m g (k + 1) = pickL g (ordL m g k) (turnN m g.length k) := by
  have hs := turnN_lt m g.length k h
  by_cases hb : g[turnN m g.length k] = true
  · rw [pick_out g _ _ hs hb, ordL_out m g k (by rw [List.getElem?_eq_getElem hs, hb])]
  · rw [pick_in g _ _ hs hb, ordL_in m g k (by rw [List.getElem?_eq_getElem hs]; simpa using hb)]
def orderI (m : Int) (g : List Bool) : List Nat := if 0 ≤ m ∧ m < g.length then ordL m.toNat g g.length else []
theorem orderI_in (m : Nat) (g : List Bool) (h : m < g.length) : orderI (m : Int) g = ordL m g g.length := by unfold orderI; rw [if_pos (by omega)]; rfl
theorem orderI_out (m : Int) (g : List Bool) (h : m < 0 ∨ (g.length : Int) ≤ m) : orderI m g = [] := by unfold orderI; rw [if_neg (by omega)]
theorem orderI_len (m : Int) (g : List Bool) : (orderI m g).length ≤ g.length := by
  unfold orderI; split
  · exact ordL_bound _ _ _
  · exact Nat.zero_le _
theorem turn_int (m k n : Nat) (hn : 0 < n) : ((m : Int) + 1 + (k : Int)) % (n : Int) = ((turnN m n k : Nat) : Int) := rfl
theorem turn_int2 (m k n : Nat) (hn : 0 < n) : ((m : Int) + ((k : Int) + 1)) % (n : Int) = ((turnN m n k : Nat) : Int) := by
  rw [show (m : Int) + ((k : Int) + 1) = (m : Int) + 1 + (k : Int) by omega]; rfl
/-! ### words -/
theorem ofInt_nat (n : Int) (h0 : 0 ≤ n) (h1 : n ≤ 2147483647) : (BitVec.ofInt 64 n).toNat = n.toNat := by
  rw [BitVec.toNat_ofInt]; simp only [Nat.reducePow]; omega
theorem sides_ne (n : Int) (h : Sides n) : BitVec.ofInt 64 n ≠ 0#64 := fun e => by
  have := ofInt_nat n (by have := h.1; omega) h.2
  rw [e] at this
  have := h.1
  simp at *; omega
theorem rem_sides (n : Int) (s : BitVec 64) (h : Sides n) : (s % BitVec.ofInt 64 n).toNat = s.toNat % n.toNat := by
  rw [BitVec.toNat_umod, ofInt_nat n (by have := h.1; omega) h.2]
theorem rem_sides_lt (n : Int) (s : BitVec 64) (h : Sides n) : (s % BitVec.ofInt 64 n).toNat < 2147483647 := by
  rw [rem_sides n s h]
  have := Nat.mod_lt s.toNat (show 0 < n.toNat by have := h.1; omega)
  have := h.2; omega
theorem throw_eq (n : Int) (s : BitVec 64) (h : Sides n) : (1 : Int) + ((s % BitVec.ofInt 64 n).toNat : Int) = throwI n s := by
  unfold throwI; rw [if_pos h, rem_sides n s h]
theorem throw_out (n : Int) (s : BitVec 64) (h : ¬ Sides n) : throwI n s = 0 := if_neg h
/-- The least number that throws a side, as a word. -/
def needB (n w : Int) (s : BitVec 64) : BitVec 64 := BitVec.ofNat 64 (needN n.toNat (w - 1).toNat s.toNat)
theorem needB_nat (n w : Int) (s : BitVec 64) (h : Sides n) (h1 : 1 ≤ w) (h2 : w ≤ n) : (needB n w s).toNat = needN n.toNat (w - 1).toNat s.toNat := by
  unfold needB; rw [BitVec.toNat_ofNat, Nat.mod_eq_of_lt (need_lt _ _ _ (by omega) (by have := h.2; omega) s.isLt)]
theorem out_nat (n w : Int) (s : BitVec 64) (h : Sides n) (h1 : 1 ≤ w) (h2 : w ≤ n) :
    ((BitVec.ofInt 64 (w - 1) + BitVec.ofInt 64 n - s % BitVec.ofInt 64 n) % BitVec.ofInt 64 n).toNat = ((w - 1).toNat + n.toNat - s.toNat % n.toNat) % n.toNat := by
  have hs1 := h.1
  have hs2 := h.2
  have hl : s.toNat % n.toNat < n.toNat := Nat.mod_lt _ (by omega)
  rw [BitVec.toNat_umod, BitVec.toNat_sub, BitVec.toNat_add, rem_sides n s h, ofInt_nat n (by omega) hs2, ofInt_nat (w - 1) (by omega) (by omega)]
  congr 1
  simp only [Nat.reducePow]
  omega
theorem need_hi (n w : Int) (s : BitVec 64) (h : Sides n) (h1 : 1 ≤ w) (h2 : w ≤ n) (h3 : ¬ s = 0#64)
    (h4 : ((-s).toNat : Int) ≤ (((BitVec.ofInt 64 (w - 1) + BitVec.ofInt 64 n - s % BitVec.ofInt 64 n) % BitVec.ofInt 64 n).toNat : Int)) : -s + BitVec.ofInt 64 (w - 1) = needB n w s := by
  have hs1 := h.1
  have hs2 := h.2
  have h0 : s.toNat ≠ 0 := fun e => h3 (BitVec.eq_of_toNat_eq e)
  have hsl := s.isLt
  have hneg : (-s).toNat = 18446744073709551616 - s.toNat := by rw [BitVec.toNat_neg]; simp only [Nat.reducePow]; omega
  apply BitVec.eq_of_toNat_eq
  rw [needB_nat n w s h h1 h2]
  rw [out_nat n w s h h1 h2, hneg] at h4
  unfold needN
  rw [if_pos ⟨h0, by omega⟩, BitVec.toNat_add, hneg, ofInt_nat (w - 1) (by omega) (by omega)]
  have hl := Nat.mod_lt ((w - 1).toNat + n.toNat - s.toNat % n.toNat) (show 0 < n.toNat by omega)
  exact Nat.mod_eq_of_lt (by simp only [Nat.reducePow]; omega)
theorem need_lo (n w : Int) (s : BitVec 64) (h : Sides n) (h1 : 1 ≤ w) (h2 : w ≤ n)
    (h4 : s = 0#64 ∨ ¬ ((-s).toNat : Int) ≤ (((BitVec.ofInt 64 (w - 1) + BitVec.ofInt 64 n - s % BitVec.ofInt 64 n) % BitVec.ofInt 64 n).toNat : Int)) :
    (BitVec.ofInt 64 (w - 1) + BitVec.ofInt 64 n - s % BitVec.ofInt 64 n) % BitVec.ofInt 64 n = needB n w s := by
  have hs1 := h.1
  have hs2 := h.2
  have hsl := s.isLt
  apply BitVec.eq_of_toNat_eq
  rw [needB_nat n w s h h1 h2, out_nat n w s h h1 h2]
  rw [out_nat n w s h h1 h2] at h4
  unfold needN
  rw [if_neg]
  rintro ⟨h5, h6⟩
  rcases h4 with rfl | h4
  · exact h5 rfl
  · have hneg : (-s).toNat = 18446744073709551616 - s.toNat := by rw [BitVec.toNat_neg]; simp only [Nat.reducePow]; omega
    rw [hneg] at h4; omega
theorem ofNat_self (x : BitVec 64) : BitVec.ofNat 64 x.toNat = x := by simp
theorem throw_need (n w : Int) (s : BitVec 64) (h : Sides n) (h1 : 1 ≤ w) (h2 : w ≤ n) : throwI n (s + needB n w s) = w := by
  have hs1 := h.1
  have hs2 := h.2
  unfold throwI
  rw [if_pos h, BitVec.toNat_add, needB_nat n w s h h1 h2]
  have := need_hit n.toNat (w - 1).toNat s.toNat (by omega) (by omega) s.isLt
  simp only [Nat.reducePow] at *
  omega
theorem throw_less (n w : Int) (s : BitVec 64) (h : Sides n) (h1 : 1 ≤ w) (h2 : w ≤ n) (k : Nat) (hk : k < (needB n w s).toNat) : throwI n (s + BitVec.ofNat 64 k) ≠ w := by
  have hs1 := h.1
  have hs2 := h.2
  have hkl : k < 18446744073709551616 := by have := (needB n w s).isLt; omega
  rw [needB_nat n w s h h1 h2] at hk
  unfold throwI
  rw [if_pos h, BitVec.toNat_add, BitVec.toNat_ofNat]
  have := need_least n.toNat (w - 1).toNat s.toNat k (by omega) (by omega) s.isLt hk
  simp only [Nat.reducePow] at *
  rw [Nat.mod_eq_of_lt hkl]
  omega
theorem take_nv (l : List Nat) (j i : Nat) (hj : j < l.length) : (l.take (j + 1)).count i = if l[j] = i then (l.take j).count i + 1 else (l.take j).count i := by
  rw [List.take_succ_eq_append_getElem hj, List.count_append, List.count_singleton]
  simp only [beq_iff_eq]
  split <;> rfl
theorem orderI_count (m : Int) (g : List Bool) (h0 : 0 ≤ m) (h1 : m < g.length) (i : Nat) (hi : i < g.length) (hg : ¬ g[i] = true) : (orderI m g).count i = 1 := by
  obtain ⟨j, rfl⟩ : ∃ j : Nat, m = (j : Int) := ⟨m.toNat, by omega⟩
  rw [orderI_in j g (by omega)]
  exact ord_count j g (by omega) i (by rw [List.getElem?_eq_getElem hi]; simpa using hg)
theorem orderI_cnt (m : Int) (g : List Bool) (h0 : 0 ≤ m) (h1 : m < g.length) : (orderI m g).length = cntN g g.length := by
  obtain ⟨j, rfl⟩ : ∃ j : Nat, m = (j : Int) := ⟨m.toNat, by omega⟩
  rw [orderI_in j g (by omega)]
  exact ord_len j g (by omega)
theorem orderI_last (m : Int) (g : List Bool) (h0 : 0 ≤ m) (h1 : m.toNat < g.length) (hg : ¬ g[m.toNat] = true) : ∃ l : List Nat, orderI m g = l ++ [m.toNat] := by
  obtain ⟨j, rfl⟩ : ∃ j : Nat, m = (j : Int) := ⟨m.toNat, by omega⟩
  rw [orderI_in j g h1]
  have h1 : j < g.length := h1
  have hg : ¬ g[j] = true := hg
  exact ord_last j g h1 (by rw [List.getElem?_eq_getElem h1]; simpa using hg)
theorem last_get {l lo : List Nat} {x : Nat} (h : l = lo ++ [x]) (hp : l.length - 1 < l.length) : l[l.length - 1] = x := by subst h; simp
theorem cntN_le (g : List Bool) (k : Nat) : cntN g k ≤ k := by
  unfold cntN; refine Nat.le_trans (List.length_filter_le _ _) ?_; simp
theorem cnt_in (g : List Bool) (k : Nat) (hk : k < g.length) (h : ¬ g[k] = true) : cntN g (k + 1) = cntN g k + 1 := cntN_in g k (by rw [List.getElem?_eq_getElem hk]; simpa using h)
theorem cnt_out (g : List Bool) (k : Nat) (hk : k < g.length) (h : g[k] = true) : cntN g (k + 1) = cntN g k := cntN_out g k (by rw [List.getElem?_eq_getElem hk]; simpa using h)
theorem take_yes (l : List Nat) (j i : Nat) (hj : j < l.length) (h : l[j] = i) : (l.take (j + 1)).count i = (l.take j).count i + 1 := by rw [take_nv l j i hj, if_pos h]
theorem take_no (l : List Nat) (j i : Nat) (hj : j < l.length) (h : ¬ l[j] = i) : (l.take (j + 1)).count i = (l.take j).count i := by rw [take_nv l j i hj, if_neg h]
def needOk (n w : Int) : Prop := Sides n ∧ 1 ≤ w ∧ w ≤ n
instance (n w : Int) : Decidable (needOk n w) := inferInstanceAs (Decidable (_ ∧ _))
def needW (n w : Int) (s : BitVec 64) : BitVec 64 := if needOk n w then needB n w s else 0#64
def needE (n w : Int) : Int := if needOk n w then 0 else 2
theorem flat_take : ∀ (l : List (BitVec 64)) (k : Nat), (l.flatMap digL).take (k * 8) = (l.take k).flatMap digL
  | _, 0 => by simp
  | [], k + 1 => by simp
  | x :: l, k + 1 => by
    rw [List.flatMap_cons, List.take_succ_cons, List.flatMap_cons, ← flat_take l k, show (k + 1) * 8 = (digL x).length + k * 8 by simp; omega, List.take_append]
    congr 1
    · exact List.take_of_length_le (by omega)
    · congr 1; omega
theorem flat_drop : ∀ (l : List (BitVec 64)) (k : Nat), (l.flatMap digL).drop (k * 8) = (l.drop k).flatMap digL
  | _, 0 => by simp
  | [], k + 1 => by simp
  | x :: l, k + 1 => by
    rw [List.flatMap_cons, List.drop_succ_cons, ← flat_drop l k, show (k + 1) * 8 = (digL x).length + k * 8 by simp; omega, ← List.drop_drop, List.drop_left]
/-- Which sides of p were thrown by the first k numbers from S on. -/
def seenL (S p k : Nat) : List Bool := (List.range 61).map fun t => (List.range k).any fun j => t == 1 + (S + j) % p
theorem seen_len (S p k : Nat) : (seenL S p k).length = 61 := by unfold seenL; simp
theorem seen_set (S p k t : Nat) (ht : t = 1 + (S + k) % p) (h : t < 61) : splice ((seenL S p k).map Value.bool) (0 + t * 1) [.bool true] = (seenL S p (k + 1)).map Value.bool := by
  rw [splice_one _ _ _ (by rw [List.length_map, seen_len]; omega)]
  apply List.ext_getElem (by simp [seen_len])
  intro i h1 h2
  have hi : i < 61 := by simpa [seen_len] using h2
  rw [List.getElem_set, List.getElem_map, List.getElem_map]
  unfold seenL
  rw [List.getElem_map, List.getElem_map, List.getElem_range, List.range_succ, List.any_append]
  split
  · rename_i he
    have : i = t := by omega
    subst this; simp [ht]
  · rename_i he
    have : ¬ i = 1 + (S + k) % p := by omega
    simp [this]
theorem mod_far (S p j k : Nat) (hj : j < k) (hk : k < p) : (S + j) % p ≠ (S + k) % p := fun e => by
  have h1 := Nat.div_add_mod (S + j) p
  have h2 := Nat.div_add_mod (S + k) p
  have h3 : (S + j) / p ≤ (S + k) / p := Nat.div_le_div_right (by omega)
  rcases Nat.lt_or_ge ((S + j) / p) ((S + k) / p) with h4 | h4
  · have := Nat.mul_le_mul_left p (show (S + j) / p + 1 ≤ (S + k) / p from h4)
    rw [Nat.mul_add, Nat.mul_one] at this
    omega
  · have h5 : (S + j) / p = (S + k) / p := by omega
    rw [h5] at h1
    omega
theorem seen_get (S p k t : Nat) (ht : t = 1 + (S + k) % p) (h : t < 61) (hk : k < p) : (((seenL S p k).map Value.bool).drop (0 + t * 1))[0]? = some (.bool false) := by
  rw [List.getElem?_drop, Nat.add_zero, Nat.zero_add, Nat.mul_one, List.getElem?_map]
  unfold seenL
  rw [List.getElem?_map, List.getElem?_range h]
  simp only [Option.map_some]
  congr 2
  rw [List.any_eq_false]
  intro j hj
  have hj : j < k := List.mem_range.1 hj
  have := mod_far S p j k hj hk
  simp; omega
theorem ofInt_small (k : Nat) (h : k < 18446744073709551616) : (BitVec.ofInt 64 (k : Int)).toNat = k := by
  rw [BitVec.toNat_ofInt]; simp only [Nat.reducePow]; omega
theorem even_guard (p : Nat) (hp : p ≤ 60) : (18446744073709551615#64 - BitVec.ofInt 64 (p : Int)).toNat = 18446744073709551615 - p := by
  rw [BitVec.toNat_sub, ofInt_small p (by omega)]; simp only [BitVec.toNat_ofNat, Nat.reducePow]; omega
theorem even_throw (p k : Nat) (f : BitVec 64) (l : List (BitVec 64)) (h1 : 1 ≤ p) (hp : p ≤ 60) (hk : k < p) (hS : (f + sumB l).toNat + p ≤ 18446744073709551615) :
    throwI (p : Int) (sumB (l ++ [f + BitVec.ofInt 64 (k : Int)])) = ((1 + ((f + sumB l).toNat + k) % p : Nat) : Int) := by
  have e : sumB (l ++ [f + BitVec.ofInt 64 (k : Int)]) = (f + sumB l) + BitVec.ofInt 64 (k : Int) := by
    rw [sumB_append, sumB_one, ← BitVec.add_assoc, BitVec.add_comm (sumB l) f]
  have e2 : (sumB (l ++ [f + BitVec.ofInt 64 (k : Int)])).toNat = (f + sumB l).toNat + k := by
    rw [e, BitVec.toNat_add, ofInt_small k (by omega)]; exact Nat.mod_eq_of_lt (by simp only [Nat.reducePow]; omega)
  unfold throwI
  rw [if_pos ⟨by omega, by omega⟩, e2]; rfl
theorem sum_front (f : BitVec 64) (l : List (BitVec 64)) (k : Nat) (hk : k < l.length) : f + sumB (l.take k) + l[k] = f + sumB (l.take (k + 1)) := by
  rw [sumB_snoc l k hk, BitVec.add_assoc]
theorem emod_pos (w p : Int) (hp : 1 ≤ p) : ∃ q : Int, 1 + w % p = q ∧ 1 ≤ q ∧ q ≤ p := by
  have h1 := Int.emod_nonneg w (show p ≠ 0 by omega)
  have h2 := Int.emod_lt_of_pos w (show 0 < p by omega)
  exact ⟨_, rfl, by omega, by omega⟩
theorem emod_nat (i : Int) (n : Nat) (h : 0 < n) : ∃ k : Nat, i % (n : Int) = (k : Int) ∧ k < n := by
  have h1 := Int.emod_nonneg i (show (n : Int) ≠ 0 by omega)
  have h2 := Int.emod_lt_of_pos i (show (0 : Int) < (n : Int) by omega)
  exact ⟨(i % (n : Int)).toNat, by omega, by omega⟩
end Go.Eng
