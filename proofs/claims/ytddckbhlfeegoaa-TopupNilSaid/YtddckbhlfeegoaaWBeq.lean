/- The walk of functions of the program: what each computes, for every input. -/
import Derived.Test.YtddckbhlfeegoaaWBFacts
namespace Go.Proofs.Ytddckbhlfeegoaa
open Go Go.Eng
set_option linter.unusedVariables false
set_option linter.unusedSimpArgs false

/-- baize/baizeref52.Same -/
theorem rsame52_spec (ba bb : Option Addr) (n m c d : Nat) (l r : List Int) (hn : l.length = n) (hm : r.length = m) (hb : n ≤ 140737488355328) : Pure Try.prog 67 ([.slice ba n c, .slice bb m d]).toArray (fun w => Row w [] ba (l.map I64) ∧ Row w [] bb (r.map I64)) (.bool (decide (l = r))) := by
  refine spec_walk (n := 26) Try.func67 rfl rfl rfl (fun w0 hpre => ?_)
  refine gc_seq ?_
  refine gc_region ?_
  refine gl_cons (gs_val (val_assign rfl) rfl rfl rfl ?_)
  refine gl_nil ?_
  refine gk_seq ?_
  refine gc_seq ?_
  refine gc_seq ?_
  refine gc_region ?_
  refine gl_cons (gs_val (val_move rfl) rfl rfl rfl ?_)
  refine gl_cons (gs_val (val_lenSli ksl22 rfl) rfl rfl rfl ?_)
  refine gl_cons (gs_val (val_move rfl) rfl rfl rfl ?_)
  refine gl_cons (gs_val (val_lenSli ksl22 rfl) rfl rfl rfl ?_)
  refine gl_cons (gs_val (val_neq rfl rfl) rfl rfl rfl ?_)
  refine gl_nil ?_
  refine gk_seq ?_
  refine gc_if rfl (fun h10 => ?_) (fun h10 => ?_)
  · skip
    refine gc_seq ?_
    refine gc_region ?_
    refine gl_cons (gs_val (val_assign rfl) rfl rfl rfl ?_)
    refine gl_nil ?_
    refine gk_seq ?_
    refine gc_ret ?_
    refine gk_seq_ret ?_
    refine gk_ret rfl (resv_tmp rfl .nil) (List.nil_sublist _) ?_
    first | exact ⟨congrArg Value.bool (decide_eq_false (ne_len hn hm h10)).symm, rfl⟩ | exact ⟨congrArg Value.bool (decide_eq_false (ne_at hk hk2 hne)).symm, rfl⟩ | exact ⟨congrArg Value.bool (decide_eq_true (eq_full hn (hm.trans hnm.symm) ht)).symm, rfl⟩
  · have hnm : n = m := by omega
    refine gc_skip ?_
    refine gk_seq ?_
    refine gc_seq ?_
    refine gc_seq ?_
    refine gc_region ?_
    refine gl_cons (gs_val (val_assign rfl) rfl rfl rfl ?_)
    refine gl_nil ?_
    refine gk_seq ?_
    refine gc_block ?_
    refine gc_loop (σ := Nat) (I := fun k => k ≤ n ∧ l.take k = r.take k) (μ := fun k => n - k) (EI := fun k => [(5, I64 (k : Int)), (0, .slice ba n c), (1, .slice bb m d)]) (LI := fun k => []) 0 ?_ ?_ ?_ ?_
    · exact ⟨Nat.zero_le _, rfl⟩
    · exact (.cons rfl (.cons rfl (.cons rfl .nil)))
    · exact fun _ h => h
    · intro k ⟨hkl, ht⟩
      have hkl : k ≤ n := hkl
      have ht : l.take k = r.take k := ht
      refine gc_seq ?_
      refine gc_seq ?_
      refine gc_region ?_
      refine gl_cons (gs_val (val_move rfl) rfl rfl rfl ?_)
      refine gl_cons (gs_val (val_move rfl) rfl rfl rfl ?_)
      refine gl_cons (gs_val (val_lenSli ksl22 rfl) rfl rfl rfl ?_)
      refine gl_cons (gs_val (val_lss rfl rfl) rfl rfl rfl ?_)
      refine gl_nil ?_
      refine gk_seq ?_
      refine gc_if rfl (fun hkn => ?_) (fun hkn => ?_)
      · have hk : k < l.length := by omega
        have hk2 : k < r.length := by omega
        refine gc_skip ?_
        refine gk_seq ?_
        refine gc_seq ?_
        refine gc_block ?_
        refine gc_seq ?_
        refine gc_drawAll kmixed (by kernel_rfl) ?_
        refine gq_val (val_move rfl) rfl rfl rfl ?_
        refine gq_val (val_move rfl) rfl rfl rfl ?_
        refine gq_val (val_indexSli (m := k) ksl22 rfl rfl (by omega) (by omega) (sees_row hpre.1) (by (try simp only [List.length_map, Nat.mul_one, dig_len, inc_len, List.length_append, List.length_cons, List.length_nil, List.length_replicate]); omega)) rfl rfl rfl ?_
        refine gq_val (val_load1 kag3 rfl ((sees_row hpre.1).elem hk) rfl) rfl rfl rfl ?_
        refine gq_val (val_move rfl) rfl rfl rfl ?_
        refine gq_val (val_move rfl) rfl rfl rfl ?_
        refine gq_val (val_indexSli (m := k) ksl22 rfl rfl (by omega) (by omega) (sees_row hpre.2) (by (try simp only [List.length_map, Nat.mul_one, dig_len, inc_len, List.length_append, List.length_cons, List.length_nil, List.length_replicate]); omega)) rfl rfl rfl ?_
        refine gq_val (val_load1 kag3 rfl ((sees_row hpre.2).elem hk2) rfl) rfl rfl rfl ?_
        refine gq_val (val_neq rfl rfl) rfl rfl rfl ?_
        refine gq_nil ?_
        refine gl_nil ?_
        refine gk_seq ?_
        refine gc_if rfl (fun h25 => ?_) (fun h25 => ?_)
        · have hne : ¬ l[k] = r[k] := fun e => by rw [e] at h25; simp at h25
          refine gc_seq ?_
          refine gc_region ?_
          refine gl_cons (gs_val (val_assign rfl) rfl rfl rfl ?_)
          refine gl_nil ?_
          refine gk_seq ?_
          refine gc_ret ?_
          refine gk_block_ret ?_
          refine gk_seq_ret ?_
          refine gk_loop_ret ?_
          refine gk_block_ret ?_
          refine gk_seq_ret ?_
          refine gk_ret rfl (resv_tmp rfl .nil) (List.nil_sublist _) ?_
          first | exact ⟨congrArg Value.bool (decide_eq_false (ne_len hn hm h10)).symm, rfl⟩ | exact ⟨congrArg Value.bool (decide_eq_false (ne_at hk hk2 hne)).symm, rfl⟩ | exact ⟨congrArg Value.bool (decide_eq_true (eq_full hn (hm.trans hnm.symm) ht)).symm, rfl⟩
        · have heq : l[k] = r[k] := Decidable.not_not.1 h25
          refine gc_skip ?_
          refine gk_block ?_
          refine gk_seq ?_
          refine gc_region ?_
          refine gl_cons (gs_val (val_move rfl) rfl rfl rfl ?_)
          refine gl_cons (gs_val (val_addI rfl rfl (by omega)) rfl rfl rfl ?_)
          refine gl_cons (gs_val (val_assign rfl) rfl rfl rfl ?_)
          refine gl_nil ?_
          refine gk_again (k + 1) ?_ ?_ ?_ ?_
          · exact ⟨by show k + 1 ≤ n; omega, eq_step hk hk2 ht heq⟩
          · show n - (k + 1) < n - k; omega
          · exact (.cons (rfl) (.cons (rfl) (.cons (rfl) .nil)))
          · exact fun _ h => h
      · have hkn2 : k = n := by omega
        rw [hkn2] at ht
        refine gc_exit ?_
        refine gk_seq_exit ?_
        refine gk_loop_exit ?_
        refine gk_block_exit ?_
        refine gk_seq ?_
        refine gc_seq ?_
        refine gc_region ?_
        refine gl_cons (gs_val (val_assign rfl) rfl rfl rfl ?_)
        refine gl_nil ?_
        refine gk_seq ?_
        refine gc_ret ?_
        refine gk_ret rfl (resv_tmp rfl .nil) (List.nil_sublist _) ?_
        first | exact ⟨congrArg Value.bool (decide_eq_false (ne_len hn hm h10)).symm, rfl⟩ | exact ⟨congrArg Value.bool (decide_eq_false (ne_at hk hk2 hne)).symm, rfl⟩ | exact ⟨congrArg Value.bool (decide_eq_true (eq_full hn (hm.trans hnm.symm) ht)).symm, rfl⟩

/-- slices.Equal[[]byte,byte] -/
theorem eqBytes_spec (ba bb : Option Addr) (n m c d : Nat) (l r : List UInt8) (hn : l.length = n) (hm : r.length = m) (hb : n ≤ 140737488355328) : Pure Try.prog 139 ([.slice ba n c, .slice bb m d]).toArray (fun w => Row w [] ba (l.map U8) ∧ Row w [] bb (r.map U8)) (.bool (decide (l = r))) := by
  refine spec_walk (n := 26) Try.func139 rfl rfl rfl (fun w0 hpre => ?_)
  refine gc_seq ?_
  refine gc_region ?_
  refine gl_cons (gs_val (val_assign rfl) rfl rfl rfl ?_)
  refine gl_nil ?_
  refine gk_seq ?_
  refine gc_seq ?_
  refine gc_seq ?_
  refine gc_region ?_
  refine gl_cons (gs_val (val_move rfl) rfl rfl rfl ?_)
  refine gl_cons (gs_val (val_lenSli ksl54 rfl) rfl rfl rfl ?_)
  refine gl_cons (gs_val (val_move rfl) rfl rfl rfl ?_)
  refine gl_cons (gs_val (val_lenSli ksl54 rfl) rfl rfl rfl ?_)
  refine gl_cons (gs_val (val_neq rfl rfl) rfl rfl rfl ?_)
  refine gl_nil ?_
  refine gk_seq ?_
  refine gc_if rfl (fun h10 => ?_) (fun h10 => ?_)
  · skip
    refine gc_seq ?_
    refine gc_region ?_
    refine gl_cons (gs_val (val_assign rfl) rfl rfl rfl ?_)
    refine gl_nil ?_
    refine gk_seq ?_
    refine gc_ret ?_
    refine gk_seq_ret ?_
    refine gk_ret rfl (resv_tmp rfl .nil) (List.nil_sublist _) ?_
    first | exact ⟨congrArg Value.bool (decide_eq_false (ne_len hn hm h10)).symm, rfl⟩ | exact ⟨congrArg Value.bool (decide_eq_false (ne_at hk hk2 hne)).symm, rfl⟩ | exact ⟨congrArg Value.bool (decide_eq_true (eq_full hn (hm.trans hnm.symm) ht)).symm, rfl⟩
  · have hnm : n = m := by omega
    refine gc_skip ?_
    refine gk_seq ?_
    refine gc_seq ?_
    refine gc_seq ?_
    refine gc_region ?_
    refine gl_cons (gs_val (val_move rfl) rfl rfl rfl ?_)
    refine gl_cons (gs_val (val_lenSli ksl54 rfl) rfl rfl rfl ?_)
    refine gl_cons (gs_val (val_move rfl) rfl rfl rfl ?_)
    refine gl_nil ?_
    refine gk_seq ?_
    refine gc_block ?_
    refine gc_loop (σ := Nat) (I := fun k => k ≤ n ∧ l.take k = r.take k) (μ := fun k => n - k) (EI := fun k => [(13, I64 (k : Int)), (0, .slice ba n c), (1, .slice bb m d), (12, I64 (n : Int))]) (LI := fun k => []) 0 ?_ ?_ ?_ ?_
    · exact ⟨Nat.zero_le _, rfl⟩
    · exact (.cons rfl (.cons rfl (.cons rfl (.cons rfl .nil))))
    · exact fun _ h => h
    · intro k ⟨hkl, ht⟩
      have hkl : k ≤ n := hkl
      have ht : l.take k = r.take k := ht
      refine gc_seq ?_
      refine gc_region ?_
      refine gl_cons (gs_val (val_lss rfl rfl) rfl rfl rfl ?_)
      refine gl_nil ?_
      refine gk_seq ?_
      refine gc_seq ?_
      refine gc_if rfl (fun hkn => ?_) (fun hkn => ?_)
      · have hk : k < l.length := by omega
        have hk2 : k < r.length := by omega
        refine gc_skip ?_
        refine gk_seq ?_
        refine gc_seq ?_
        refine gc_block ?_
        refine gc_seq ?_
        refine gc_region ?_
        refine gl_cons (gs_val (val_move rfl) rfl rfl rfl ?_)
        refine gl_cons (gs_val (val_assign rfl) rfl rfl rfl ?_)
        refine gl_nil ?_
        refine gk_seq ?_
        refine gc_seq ?_
        refine gc_drawAll kmixed (by kernel_rfl) ?_
        refine gq_val (val_move rfl) rfl rfl rfl ?_
        refine gq_val (val_move rfl) rfl rfl rfl ?_
        refine gq_val (val_indexSli (m := k) ksl54 rfl rfl (by omega) (by omega) (sees_row hpre.1) (by (try simp only [List.length_map, Nat.mul_one, dig_len, inc_len, List.length_append, List.length_cons, List.length_nil, List.length_replicate]); omega)) rfl rfl rfl ?_
        refine gq_val (val_load1 kag5 rfl ((sees_row hpre.1).elem hk) rfl) rfl rfl rfl ?_
        refine gq_val (val_move rfl) rfl rfl rfl ?_
        refine gq_val (val_move rfl) rfl rfl rfl ?_
        refine gq_val (val_indexSli (m := k) ksl54 rfl rfl (by omega) (by omega) (sees_row hpre.2) (by (try simp only [List.length_map, Nat.mul_one, dig_len, inc_len, List.length_append, List.length_cons, List.length_nil, List.length_replicate]); omega)) rfl rfl rfl ?_
        refine gq_val (val_load1 kag5 rfl ((sees_row hpre.2).elem hk2) rfl) rfl rfl rfl ?_
        refine gq_val (val_neq rfl rfl) rfl rfl rfl ?_
        refine gq_nil ?_
        refine gl_nil ?_
        refine gk_seq ?_
        refine gc_if rfl (fun h24 => ?_) (fun h24 => ?_)
        · have hne : ¬ l[k] = r[k] := fun e => by rw [e] at h24; simp at h24
          refine gc_seq ?_
          refine gc_region ?_
          refine gl_cons (gs_val (val_assign rfl) rfl rfl rfl ?_)
          refine gl_nil ?_
          refine gk_seq ?_
          refine gc_ret ?_
          refine gk_block_ret ?_
          refine gk_seq_ret ?_
          refine gk_loop_ret ?_
          refine gk_block_ret ?_
          refine gk_seq_ret ?_
          refine gk_ret rfl (resv_tmp rfl .nil) (List.nil_sublist _) ?_
          first | exact ⟨congrArg Value.bool (decide_eq_false (ne_len hn hm h10)).symm, rfl⟩ | exact ⟨congrArg Value.bool (decide_eq_false (ne_at hk hk2 hne)).symm, rfl⟩ | exact ⟨congrArg Value.bool (decide_eq_true (eq_full hn (hm.trans hnm.symm) ht)).symm, rfl⟩
        · have heq : l[k] = r[k] := u8_of_nat (Decidable.not_not.1 h24)
          refine gc_skip ?_
          refine gk_block ?_
          refine gk_seq ?_
          refine gc_region ?_
          refine gl_cons (gs_val (val_addI rfl rfl (by omega)) rfl rfl rfl ?_)
          refine gl_cons (gs_val (val_move rfl) rfl rfl rfl ?_)
          refine gl_nil ?_
          refine gk_again (k + 1) ?_ ?_ ?_ ?_
          · exact ⟨by show k + 1 ≤ n; omega, eq_step hk hk2 ht heq⟩
          · show n - (k + 1) < n - k; omega
          · exact (.cons (rfl) (.cons (rfl) (.cons (rfl) (.cons (rfl) .nil))))
          · exact fun _ h => h
      · have hkn2 : k = n := by omega
        rw [hkn2] at ht
        refine gc_exit ?_
        refine gk_seq_exit ?_
        refine gk_loop_exit ?_
        refine gk_block_exit ?_
        refine gk_seq ?_
        refine gc_seq ?_
        refine gc_region ?_
        refine gl_cons (gs_val (val_assign rfl) rfl rfl rfl ?_)
        refine gl_nil ?_
        refine gk_seq ?_
        refine gc_ret ?_
        refine gk_ret rfl (resv_tmp rfl .nil) (List.nil_sublist _) ?_
        first | exact ⟨congrArg Value.bool (decide_eq_false (ne_len hn hm h10)).symm, rfl⟩ | exact ⟨congrArg Value.bool (decide_eq_false (ne_at hk hk2 hne)).symm, rfl⟩ | exact ⟨congrArg Value.bool (decide_eq_true (eq_full hn (hm.trans hnm.symm) ht)).symm, rfl⟩

/-- slices.Equal[[]int,int] -/
theorem eqInts_spec (ba bb : Option Addr) (n m c d : Nat) (l r : List Int) (hn : l.length = n) (hm : r.length = m) (hb : n ≤ 140737488355328) : Pure Try.prog 106 ([.slice ba n c, .slice bb m d]).toArray (fun w => Row w [] ba (l.map I64) ∧ Row w [] bb (r.map I64)) (.bool (decide (l = r))) := by
  refine spec_walk (n := 26) Try.func106 rfl rfl rfl (fun w0 hpre => ?_)
  refine gc_seq ?_
  refine gc_region ?_
  refine gl_cons (gs_val (val_assign rfl) rfl rfl rfl ?_)
  refine gl_nil ?_
  refine gk_seq ?_
  refine gc_seq ?_
  refine gc_seq ?_
  refine gc_region ?_
  refine gl_cons (gs_val (val_move rfl) rfl rfl rfl ?_)
  refine gl_cons (gs_val (val_lenSli ksl22 rfl) rfl rfl rfl ?_)
  refine gl_cons (gs_val (val_move rfl) rfl rfl rfl ?_)
  refine gl_cons (gs_val (val_lenSli ksl22 rfl) rfl rfl rfl ?_)
  refine gl_cons (gs_val (val_neq rfl rfl) rfl rfl rfl ?_)
  refine gl_nil ?_
  refine gk_seq ?_
  refine gc_if rfl (fun h10 => ?_) (fun h10 => ?_)
  · skip
    refine gc_seq ?_
    refine gc_region ?_
    refine gl_cons (gs_val (val_assign rfl) rfl rfl rfl ?_)
    refine gl_nil ?_
    refine gk_seq ?_
    refine gc_ret ?_
    refine gk_seq_ret ?_
    refine gk_ret rfl (resv_tmp rfl .nil) (List.nil_sublist _) ?_
    first | exact ⟨congrArg Value.bool (decide_eq_false (ne_len hn hm h10)).symm, rfl⟩ | exact ⟨congrArg Value.bool (decide_eq_false (ne_at hk hk2 hne)).symm, rfl⟩ | exact ⟨congrArg Value.bool (decide_eq_true (eq_full hn (hm.trans hnm.symm) ht)).symm, rfl⟩
  · have hnm : n = m := by omega
    refine gc_skip ?_
    refine gk_seq ?_
    refine gc_seq ?_
    refine gc_seq ?_
    refine gc_region ?_
    refine gl_cons (gs_val (val_move rfl) rfl rfl rfl ?_)
    refine gl_cons (gs_val (val_lenSli ksl22 rfl) rfl rfl rfl ?_)
    refine gl_cons (gs_val (val_move rfl) rfl rfl rfl ?_)
    refine gl_nil ?_
    refine gk_seq ?_
    refine gc_block ?_
    refine gc_loop (σ := Nat) (I := fun k => k ≤ n ∧ l.take k = r.take k) (μ := fun k => n - k) (EI := fun k => [(13, I64 (k : Int)), (0, .slice ba n c), (1, .slice bb m d), (12, I64 (n : Int))]) (LI := fun k => []) 0 ?_ ?_ ?_ ?_
    · exact ⟨Nat.zero_le _, rfl⟩
    · exact (.cons rfl (.cons rfl (.cons rfl (.cons rfl .nil))))
    · exact fun _ h => h
    · intro k ⟨hkl, ht⟩
      have hkl : k ≤ n := hkl
      have ht : l.take k = r.take k := ht
      refine gc_seq ?_
      refine gc_region ?_
      refine gl_cons (gs_val (val_lss rfl rfl) rfl rfl rfl ?_)
      refine gl_nil ?_
      refine gk_seq ?_
      refine gc_seq ?_
      refine gc_if rfl (fun hkn => ?_) (fun hkn => ?_)
      · have hk : k < l.length := by omega
        have hk2 : k < r.length := by omega
        refine gc_skip ?_
        refine gk_seq ?_
        refine gc_seq ?_
        refine gc_block ?_
        refine gc_seq ?_
        refine gc_region ?_
        refine gl_cons (gs_val (val_move rfl) rfl rfl rfl ?_)
        refine gl_cons (gs_val (val_assign rfl) rfl rfl rfl ?_)
        refine gl_nil ?_
        refine gk_seq ?_
        refine gc_seq ?_
        refine gc_drawAll kmixed (by kernel_rfl) ?_
        refine gq_val (val_move rfl) rfl rfl rfl ?_
        refine gq_val (val_move rfl) rfl rfl rfl ?_
        refine gq_val (val_indexSli (m := k) ksl22 rfl rfl (by omega) (by omega) (sees_row hpre.1) (by (try simp only [List.length_map, Nat.mul_one, dig_len, inc_len, List.length_append, List.length_cons, List.length_nil, List.length_replicate]); omega)) rfl rfl rfl ?_
        refine gq_val (val_load1 kag3 rfl ((sees_row hpre.1).elem hk) rfl) rfl rfl rfl ?_
        refine gq_val (val_move rfl) rfl rfl rfl ?_
        refine gq_val (val_move rfl) rfl rfl rfl ?_
        refine gq_val (val_indexSli (m := k) ksl22 rfl rfl (by omega) (by omega) (sees_row hpre.2) (by (try simp only [List.length_map, Nat.mul_one, dig_len, inc_len, List.length_append, List.length_cons, List.length_nil, List.length_replicate]); omega)) rfl rfl rfl ?_
        refine gq_val (val_load1 kag3 rfl ((sees_row hpre.2).elem hk2) rfl) rfl rfl rfl ?_
        refine gq_val (val_neq rfl rfl) rfl rfl rfl ?_
        refine gq_nil ?_
        refine gl_nil ?_
        refine gk_seq ?_
        refine gc_if rfl (fun h24 => ?_) (fun h24 => ?_)
        · have hne : ¬ l[k] = r[k] := fun e => by rw [e] at h24; simp at h24
          refine gc_seq ?_
          refine gc_region ?_
          refine gl_cons (gs_val (val_assign rfl) rfl rfl rfl ?_)
          refine gl_nil ?_
          refine gk_seq ?_
          refine gc_ret ?_
          refine gk_block_ret ?_
          refine gk_seq_ret ?_
          refine gk_loop_ret ?_
          refine gk_block_ret ?_
          refine gk_seq_ret ?_
          refine gk_ret rfl (resv_tmp rfl .nil) (List.nil_sublist _) ?_
          first | exact ⟨congrArg Value.bool (decide_eq_false (ne_len hn hm h10)).symm, rfl⟩ | exact ⟨congrArg Value.bool (decide_eq_false (ne_at hk hk2 hne)).symm, rfl⟩ | exact ⟨congrArg Value.bool (decide_eq_true (eq_full hn (hm.trans hnm.symm) ht)).symm, rfl⟩
        · have heq : l[k] = r[k] := Decidable.not_not.1 h24
          refine gc_skip ?_
          refine gk_block ?_
          refine gk_seq ?_
          refine gc_region ?_
          refine gl_cons (gs_val (val_addI rfl rfl (by omega)) rfl rfl rfl ?_)
          refine gl_cons (gs_val (val_move rfl) rfl rfl rfl ?_)
          refine gl_nil ?_
          refine gk_again (k + 1) ?_ ?_ ?_ ?_
          · exact ⟨by show k + 1 ≤ n; omega, eq_step hk hk2 ht heq⟩
          · show n - (k + 1) < n - k; omega
          · exact (.cons (rfl) (.cons (rfl) (.cons (rfl) (.cons (rfl) .nil))))
          · exact fun _ h => h
      · have hkn2 : k = n := by omega
        rw [hkn2] at ht
        refine gc_exit ?_
        refine gk_seq_exit ?_
        refine gk_loop_exit ?_
        refine gk_block_exit ?_
        refine gk_seq ?_
        refine gc_seq ?_
        refine gc_region ?_
        refine gl_cons (gs_val (val_assign rfl) rfl rfl rfl ?_)
        refine gl_nil ?_
        refine gk_seq ?_
        refine gc_ret ?_
        refine gk_ret rfl (resv_tmp rfl .nil) (List.nil_sublist _) ?_
        first | exact ⟨congrArg Value.bool (decide_eq_false (ne_len hn hm h10)).symm, rfl⟩ | exact ⟨congrArg Value.bool (decide_eq_false (ne_at hk hk2 hne)).symm, rfl⟩ | exact ⟨congrArg Value.bool (decide_eq_true (eq_full hn (hm.trans hnm.symm) ht)).symm, rfl⟩

end Go.Proofs.Ytddckbhlfeegoaa
