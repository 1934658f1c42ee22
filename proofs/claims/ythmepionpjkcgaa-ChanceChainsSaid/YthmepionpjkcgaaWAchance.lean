/- The walk of functions of the program: what each computes, for every input. -/
import Derived.Test.YthmepionpjkcgaaWAFacts
import Derived.Test.YthmepionpjkcgaaWAhash
import Derived.Test.YthmepionpjkcgaaWAref02
namespace Go.Proofs.Ythmepionpjkcgaa
open Go Go.Eng
set_option linter.unusedVariables false
set_option linter.unusedSimpArgs false

/-- baize/chance.right -/
theorem right_spec (n : Int) : Pure Try.prog 130 ([I64 n]).toArray (fun _ => True) (.bool (decide (Sides n))) := by
  refine spec_walk (n := 9) Try.func130 rfl rfl rfl (fun w0 hpre => ?_)
  refine gc_seq ?_
  refine gc_region ?_
  refine gl_cons (gs_val (val_assign rfl) rfl rfl rfl ?_)
  refine gl_nil ?_
  refine gk_seq ?_
  refine gc_seq ?_
  refine gc_region ?_
  refine gl_cons (gs_val (val_move rfl) rfl rfl rfl ?_)
  refine gl_cons (gs_val (val_geq rfl rfl) rfl rfl rfl ?_)
  refine gl_cons (gs_val (val_move rfl) rfl rfl rfl ?_)
  refine gx_split 5 rfl (fun h5 => ?_) (fun h5 => ?_)
  · skip
    refine gl_cons (gs_val (val_move rfl) rfl rfl rfl ?_)
    refine gl_cons (gs_val (val_leq rfl rfl) rfl rfl rfl ?_)
    refine gl_cons (gs_val (val_pick_t rfl rfl) rfl rfl rfl ?_)
    refine gl_cons (gs_val (val_assign rfl) rfl rfl rfl ?_)
    refine gl_nil ?_
    refine gk_seq ?_
    refine gc_ret ?_
    refine gk_ret rfl (resv_tmp rfl .nil) (List.nil_sublist _) ?_
    first | exact ⟨congrArg Value.bool (decide_eq_decide.2 ⟨fun h => ⟨h5, h⟩, fun h => h.2⟩), rfl⟩ | exact ⟨congrArg Value.bool (decide_eq_false (fun h => h5 h.1)).symm, rfl⟩
  · skip
    refine gl_cons (gs_skip rfl rfl rfl ?_)
    refine gl_cons (gs_skip rfl rfl rfl ?_)
    refine gl_cons (gs_val (val_pick_f rfl rfl) rfl rfl rfl ?_)
    refine gl_cons (gs_val (val_assign rfl) rfl rfl rfl ?_)
    refine gl_nil ?_
    refine gk_seq ?_
    refine gc_ret ?_
    refine gk_ret rfl (resv_tmp rfl .nil) (List.nil_sublist _) ?_
    first | exact ⟨congrArg Value.bool (decide_eq_decide.2 ⟨fun h => ⟨h5, h⟩, fun h => h.2⟩), rfl⟩ | exact ⟨congrArg Value.bool (decide_eq_false (fun h => h5 h.1)).symm, rfl⟩

/-- baize/chance.sum -/
theorem sum18_spec (ba : Option Addr) (n cap : Nat) (l : List (BitVec 64)) (hn : l.length = n) (hl : n ≤ 1048576) : Pure Try.prog 131 ([.slice ba n cap]).toArray (fun w => Row w [] ba (l.flatMap digL)) (U64 (sumB l)) := by
  refine spec_walk (n := 18) Try.func131 rfl rfl rfl (fun w0 hpre => ?_)
  refine gc_seq ?_
  refine gc_region ?_
  refine gl_cons (gs_val (val_assign rfl) rfl rfl rfl ?_)
  refine gl_nil ?_
  refine gk_seq ?_
  refine gc_seq ?_
  refine gc_region ?_
  refine gl_cons (gs_val (val_assign rfl) rfl rfl rfl ?_)
  refine gl_nil ?_
  refine gk_seq ?_
  refine gc_seq ?_
  refine gc_seq ?_
  refine gc_region ?_
  refine gl_cons (gs_val (val_move rfl) rfl rfl rfl ?_)
  refine gl_cons (gs_val (val_lenSli ksl43 rfl) rfl rfl rfl ?_)
  refine gl_cons (gs_val (val_move rfl) rfl rfl rfl ?_)
  refine gl_nil ?_
  refine gk_seq ?_
  refine gc_block ?_
  refine gc_loop (σ := Nat) (I := fun k => k ≤ l.length) (μ := fun k => l.length - k) (EI := fun k => [(3, U64 (sumB (l.take k))), (8, I64 (k : Int)), (2, .int .u64 0), (6, .slice ba n cap), (7, I64 (n : Int))]) (LI := fun k => []) 0 ?_ ?_ ?_ ?_
  · exact Nat.zero_le _
  · exact (.cons rfl (.cons rfl (.cons rfl (.cons rfl (.cons rfl .nil)))))
  · exact fun _ h => h.sub (List.nil_sublist _)
  · intro k hI
    have hI : k ≤ l.length := hI
    refine gc_seq ?_
    refine gc_region ?_
    refine gl_cons (gs_val (val_lss rfl rfl) rfl rfl rfl ?_)
    refine gl_nil ?_
    refine gk_seq ?_
    refine gc_seq ?_
    refine gc_if rfl (fun hk => ?_) (fun hk => ?_)
    · have hk : k < l.length := by omega
      refine gc_skip ?_
      refine gk_seq ?_
      refine gc_seq ?_
      refine gc_block ?_
      refine gc_seq ?_
      refine gc_region ?_
      refine gl_cons (gs_val (val_indexSli ksl43 rfl rfl rfl (by omega) (sees_row hpre) (by (try simp only [List.length_map, Nat.mul_one, dig_len, inc_len]); omega)) rfl rfl rfl ?_)
      refine gl_cons (gs_val (val_loadA kag24 rfl ((sees_row hpre).elem8 hk) rfl rfl) rfl rfl rfl ?_)
      refine gl_cons (gs_alloc kze24 rfl rfl rfl (fun b5 => ?_))
      refine gl_cons (gs_store ksz24 rfl rfl rfl rfl rfl rfl (by first | exact .head | exact .tail .head | exact .tail (.tail .head) | exact .tail (.tail (.tail .head)) | exact .tail (.tail (.tail (.tail .head))) | exact .tail (.tail (.tail (.tail (.tail .head))))) (by simp) (by first | ((with_reducible refine splice_all _ _ ?_); simp; done) | (simp only [splice, stL, digL, List.take_succ_cons, List.take_zero, List.drop_succ_cons, List.drop_zero, List.length_cons, List.length_nil, Nat.reduceAdd, Nat.reduceMul, Nat.zero_add, Nat.zero_mul, List.cons_append, List.nil_append]; exact rfl)) ?_)
      refine gl_nil ?_
      refine gk_seq ?_
      refine gc_region ?_
      refine gl_cons (gs_val (val_move rfl) rfl rfl rfl ?_)
      refine gl_cons (gs_val (val_loadA kag24 rfl (sees_mem (by repeat (first | exact .head _ | refine .tail _ ?_ | refine List.mem_append_right _ ?_))) rfl rfl) rfl rfl rfl ?_)
      refine gl_cons (gs_pure (enters kcall36 (.cons rfl .nil)) (num_spec _) rfl rfl rfl (fun _ _ => trivial) ?_)
      refine gl_cons (gs_val (val_add64 rfl rfl rfl rfl) rfl rfl rfl ?_)
      refine gl_cons (gs_val (val_assign rfl) rfl rfl rfl ?_)
      refine gl_nil ?_
      refine gk_block ?_
      refine gk_seq ?_
      refine gc_region ?_
      refine gl_cons (gs_val (val_addI rfl rfl (by omega)) rfl rfl rfl ?_)
      refine gl_cons (gs_val (val_move rfl) rfl rfl rfl ?_)
      refine gl_nil ?_
      refine gk_again (k + 1) ?_ ?_ ?_ ?_
      · show k + 1 ≤ l.length; omega
      · show l.length - (k + 1) < l.length - k; omega
      · exact (.cons (congrArg (fun x => some (U64 x)) (sumB_snoc l k hk).symm) (.cons (rfl) (.cons (rfl) (.cons (rfl) (.cons (rfl) .nil)))))
      · exact fun _ h => h.sub (List.nil_sublist _)
    · have e : k = l.length := by omega
      subst e
      rw [List.take_length]
      refine gc_exit ?_
      refine gk_seq_exit ?_
      refine gk_loop_exit ?_
      refine gk_block_exit ?_
      refine gk_seq ?_
      refine gc_seq ?_
      refine gc_region ?_
      refine gl_cons (gs_val (val_move rfl) rfl rfl rfl ?_)
      refine gl_cons (gs_val (val_assign rfl) rfl rfl rfl ?_)
      refine gl_nil ?_
      refine gk_seq ?_
      refine gc_ret ?_
      refine gk_ret rfl (resv_tmp rfl .nil) (List.nil_sublist _) ?_
      exact ⟨rfl, rfl⟩

/-- baize/chance.Throw -/
theorem cThrow_ok (ba : Option Addr) (n cap : Nat) (l : List (BitVec 64)) (hn : l.length = n) (hl : n ≤ 1048576) (m : Int) (h : Sides m) : Pure Try.prog 89 ([I64 m, .slice ba n cap]).toArray (fun w => Row w [] ba (l.flatMap digL)) (.tuple #[I64 (throwI m (sumB l)), I64 0]) := by
  obtain ⟨h1, h2⟩ := id h
  have hlt := rem_sides_lt m (sumB l) h
  have hne := sides_ne m h
  refine spec_walk (n := 16) Try.func89 rfl rfl rfl (fun w0 hpre => ?_)
  refine gc_seq ?_
  refine gc_region ?_
  refine gl_cons (gs_val (val_assign rfl) rfl rfl rfl ?_)
  refine gl_cons (gs_val (val_assign rfl) rfl rfl rfl ?_)
  refine gl_nil ?_
  refine gk_seq ?_
  refine gc_seq ?_
  refine gc_seq ?_
  refine gc_region ?_
  refine gl_cons (gs_val (val_move rfl) rfl rfl rfl ?_)
  refine gl_cons (gs_pure (enters kcall130 (.cons rfl .nil)) (right_spec m) rfl rfl rfl (fun _ _ => trivial) ?_)
  refine gl_cons (gs_val (val_no (val_not_dec rfl) (fun hh => hh h)) rfl rfl rfl ?_)
  refine gl_nil ?_
  refine gk_seq ?_
  refine gc_false rfl ?_
  refine gc_skip ?_
  refine gk_seq ?_
  refine gc_seq ?_
  refine gc_region ?_
  refine gl_cons (gs_val (val_move rfl) rfl rfl rfl ?_)
  refine gl_cons (gs_pure (enters kcall131 (.cons rfl .nil)) (sum18_spec _ _ _ l hn hl) rfl rfl rfl (row_of_sees (sees_row hpre)) ?_)
  refine gl_cons (gs_val (val_move rfl) rfl rfl rfl ?_)
  refine gl_cons (gs_val (val_conv64 rfl kis3 kun23) rfl rfl rfl ?_)
  refine gl_cons (gs_val (val_rem64 rfl rfl rfl rfl (by assumption)) rfl rfl rfl ?_)
  refine gl_cons (gs_val (val_convI rfl kis23 kun3 (by omega)) rfl rfl rfl ?_)
  refine gl_cons (gs_val (val_addI rfl rfl (by omega)) rfl rfl rfl ?_)
  refine gl_cons (gs_val (val_assign rfl) rfl rfl rfl ?_)
  refine gl_cons (gs_val (val_assign rfl) rfl rfl rfl ?_)
  refine gl_nil ?_
  refine gk_seq ?_
  refine gc_ret ?_
  refine gk_ret rfl (resv_tmp rfl (resv_tmp rfl .nil)) (List.nil_sublist _) ?_
  exact ⟨congrArg (fun z => Value.tuple #[I64 z, I64 0]) (throw_eq m _ h), rfl⟩

/-- baize/chance.Throw -/
theorem cThrow_no (ba : Option Addr) (n cap : Nat) (l : List (BitVec 64)) (hn : l.length = n) (hl : n ≤ 1048576) (m : Int) (h : ¬ Sides m) : Pure Try.prog 89 ([I64 m, .slice ba n cap]).toArray (fun _ => True) (.tuple #[I64 0, I64 2]) := by
  refine spec_walk (n := 16) Try.func89 rfl rfl rfl (fun w0 hpre => ?_)
  refine gc_seq ?_
  refine gc_region ?_
  refine gl_cons (gs_val (val_assign rfl) rfl rfl rfl ?_)
  refine gl_cons (gs_val (val_assign rfl) rfl rfl rfl ?_)
  refine gl_nil ?_
  refine gk_seq ?_
  refine gc_seq ?_
  refine gc_seq ?_
  refine gc_region ?_
  refine gl_cons (gs_val (val_move rfl) rfl rfl rfl ?_)
  refine gl_cons (gs_pure (enters kcall130 (.cons rfl .nil)) (right_spec m) rfl rfl rfl (fun _ _ => trivial) ?_)
  refine gl_cons (gs_val (val_yes (val_not_dec rfl) h) rfl rfl rfl ?_)
  refine gl_nil ?_
  refine gk_seq ?_
  refine gc_true rfl ?_
  refine gc_seq ?_
  refine gc_region ?_
  refine gl_cons (gs_val (val_assign rfl) rfl rfl rfl ?_)
  refine gl_cons (gs_val (val_assign rfl) rfl rfl rfl ?_)
  refine gl_nil ?_
  refine gk_seq ?_
  refine gc_ret ?_
  refine gk_seq_ret ?_
  refine gk_ret rfl (resv_tmp rfl (resv_tmp rfl .nil)) (List.nil_sublist _) ?_
  exact ⟨rfl, rfl⟩

/-- baize/baizeref18.Throw -/
theorem rThrow_ok (ba : Option Addr) (n cap : Nat) (l : List (BitVec 64)) (hn : l.length = n) (hl : n ≤ 1048576) (m : Int) (h : Sides m) : Pure Try.prog 91 ([I64 m, .slice ba n cap]).toArray (fun w => Row w [] ba (l.flatMap digL)) (.tuple #[I64 (throwI m (sumB l)), I64 0]) := by
  obtain ⟨h1, h2⟩ := id h
  have hlt := rem_sides_lt m (sumB l) h
  have hne := sides_ne m h
  refine spec_walk (n := 33) Try.func91 rfl rfl rfl (fun w0 hpre => ?_)
  refine gc_seq ?_
  refine gc_region ?_
  refine gl_cons (gs_val (val_assign rfl) rfl rfl rfl ?_)
  refine gl_cons (gs_val (val_assign rfl) rfl rfl rfl ?_)
  refine gl_nil ?_
  refine gk_seq ?_
  refine gc_seq ?_
  refine gc_seq ?_
  refine gc_region ?_
  refine gl_cons (gs_val (val_move rfl) rfl rfl rfl ?_)
  refine gl_cons (gs_val (val_no (val_lss rfl rfl) (by omega)) rfl rfl rfl ?_)
  refine gl_cons (gs_val (val_move rfl) rfl rfl rfl ?_)
  refine gl_cons (gs_val (val_move rfl) rfl rfl rfl ?_)
  refine gl_cons (gs_val (val_no (val_gtr rfl rfl) (by omega)) rfl rfl rfl ?_)
  refine gl_cons (gs_val (val_pick_f rfl rfl) rfl rfl rfl ?_)
  refine gl_nil ?_
  refine gk_seq ?_
  refine gc_false rfl ?_
  refine gc_skip ?_
  refine gk_seq ?_
  refine gc_seq ?_
  refine gc_region ?_
  refine gl_cons (gs_val (val_assign rfl) rfl rfl rfl ?_)
  refine gl_nil ?_
  refine gk_seq ?_
  refine gc_seq ?_
  refine gc_seq ?_
  refine gc_region ?_
  refine gl_cons (gs_val (val_assign rfl) rfl rfl rfl ?_)
  refine gl_nil ?_
  refine gk_seq ?_
  refine gc_block ?_
  refine gc_loop (σ := Nat) (I := fun k => k ≤ l.length) (μ := fun k => l.length - k) (EI := fun k => [(6, U64 (sumB (l.take k))), (7, I64 (k : Int)), (0, I64 m), (1, .slice ba n cap), (4, .int .i64 0), (5, .int .i64 0)]) (LI := fun k => []) 0 ?_ ?_ ?_ ?_
  · exact Nat.zero_le _
  · exact (.cons rfl (.cons rfl (.cons rfl (.cons rfl (.cons rfl (.cons rfl .nil))))))
  · exact fun _ h => h.sub (List.nil_sublist _)
  · intro k hI
    have hI : k ≤ l.length := hI
    refine gc_seq ?_
    refine gc_seq ?_
    refine gc_region ?_
    refine gl_cons (gs_val (val_move rfl) rfl rfl rfl ?_)
    refine gl_cons (gs_val (val_move rfl) rfl rfl rfl ?_)
    refine gl_cons (gs_val (val_lenSli ksl42 rfl) rfl rfl rfl ?_)
    refine gl_cons (gs_val (val_lss rfl rfl) rfl rfl rfl ?_)
    refine gl_nil ?_
    refine gk_seq ?_
    refine gc_if rfl (fun hk => ?_) (fun hk => ?_)
    · have hk : k < l.length := by omega
      refine gc_skip ?_
      refine gk_seq ?_
      refine gc_seq ?_
      refine gc_block ?_
      refine gc_region ?_
      refine gl_cons (gs_val (val_move rfl) rfl rfl rfl ?_)
      refine gl_cons (gs_val (val_move rfl) rfl rfl rfl ?_)
      refine gl_cons (gs_val (val_move rfl) rfl rfl rfl ?_)
      refine gl_cons (gs_val (val_indexSli ksl42 rfl rfl rfl (by omega) (sees_row hpre) (by (try simp only [List.length_map, Nat.mul_one, dig_len, inc_len]); omega)) rfl rfl rfl ?_)
      refine gl_cons (gs_val (val_loadA kag22 rfl ((sees_row hpre).elem8 hk) rfl rfl) rfl rfl rfl ?_)
      refine gl_cons (gs_pure (enters kcall37 (.cons rfl .nil)) (rnum_spec _) rfl rfl rfl (fun _ _ => trivial) ?_)
      refine gl_cons (gs_val (val_add64 rfl rfl rfl rfl) rfl rfl rfl ?_)
      refine gl_cons (gs_val (val_assign rfl) rfl rfl rfl ?_)
      refine gl_nil ?_
      refine gk_block ?_
      refine gk_seq ?_
      refine gc_region ?_
      refine gl_cons (gs_val (val_move rfl) rfl rfl rfl ?_)
      refine gl_cons (gs_val (val_addI rfl rfl (by omega)) rfl rfl rfl ?_)
      refine gl_cons (gs_val (val_assign rfl) rfl rfl rfl ?_)
      refine gl_nil ?_
      refine gk_again (k + 1) ?_ ?_ ?_ ?_
      · show k + 1 ≤ l.length; omega
      · show l.length - (k + 1) < l.length - k; omega
      · exact (.cons (congrArg (fun x => some (U64 x)) (sumB_snoc l k hk).symm) (.cons (rfl) (.cons (rfl) (.cons (rfl) (.cons (rfl) (.cons (rfl) .nil))))))
      · exact fun _ h => h.sub (List.nil_sublist _)
    · have e : k = l.length := by omega
      subst e
      rw [List.take_length]
      refine gc_exit ?_
      refine gk_seq_exit ?_
      refine gk_loop_exit ?_
      refine gk_block_exit ?_
      refine gk_seq ?_
      refine gc_seq ?_
      refine gc_region ?_
      refine gl_cons (gs_val (val_move rfl) rfl rfl rfl ?_)
      refine gl_cons (gs_val (val_move rfl) rfl rfl rfl ?_)
      refine gl_cons (gs_val (val_conv64 rfl kis3 kun23) rfl rfl rfl ?_)
      refine gl_cons (gs_val (val_rem64 rfl rfl rfl rfl (by assumption)) rfl rfl rfl ?_)
      refine gl_cons (gs_val (val_convI rfl kis23 kun3 (by omega)) rfl rfl rfl ?_)
      refine gl_cons (gs_val (val_addI rfl rfl (by omega)) rfl rfl rfl ?_)
      refine gl_cons (gs_val (val_assign rfl) rfl rfl rfl ?_)
      refine gl_cons (gs_val (val_assign rfl) rfl rfl rfl ?_)
      refine gl_nil ?_
      refine gk_seq ?_
      refine gc_ret ?_
      refine gk_ret rfl (resv_tmp rfl (resv_tmp rfl .nil)) (List.nil_sublist _) ?_
      exact ⟨congrArg (fun z => Value.tuple #[I64 z, I64 0]) (throw_eq m _ h), rfl⟩

/-- baize/baizeref18.Throw -/
theorem rThrow_no (ba : Option Addr) (n cap : Nat) (l : List (BitVec 64)) (hn : l.length = n) (hl : n ≤ 1048576) (m : Int) (h : ¬ Sides m) : Pure Try.prog 91 ([I64 m, .slice ba n cap]).toArray (fun _ => True) (.tuple #[I64 0, I64 2]) := by
  have h : ¬ (1 ≤ m ∧ m ≤ 2147483647) := h
  refine spec_walk (n := 33) Try.func91 rfl rfl rfl (fun w0 hpre => ?_)
  refine gc_seq ?_
  refine gc_region ?_
  refine gl_cons (gs_val (val_assign rfl) rfl rfl rfl ?_)
  refine gl_cons (gs_val (val_assign rfl) rfl rfl rfl ?_)
  refine gl_nil ?_
  refine gk_seq ?_
  refine gc_seq ?_
  refine gc_seq ?_
  refine gc_region ?_
  refine gl_cons (gs_val (val_move rfl) rfl rfl rfl ?_)
  refine gl_cons (gs_val (val_lss rfl rfl) rfl rfl rfl ?_)
  refine gl_cons (gs_val (val_move rfl) rfl rfl rfl ?_)
  refine gx_split 10 rfl (fun h10 => ?_) (fun h10 => ?_)
  · skip
    refine gl_cons (gs_skip rfl rfl rfl ?_)
    refine gl_cons (gs_skip rfl rfl rfl ?_)
    refine gl_cons (gs_val (val_pick_t rfl rfl) rfl rfl rfl ?_)
    refine gl_nil ?_
    refine gk_seq ?_
    refine gc_true rfl ?_
    refine gc_seq ?_
    refine gc_region ?_
    refine gl_cons (gs_val (val_assign rfl) rfl rfl rfl ?_)
    refine gl_cons (gs_val (val_assign rfl) rfl rfl rfl ?_)
    refine gl_nil ?_
    refine gk_seq ?_
    refine gc_ret ?_
    refine gk_seq_ret ?_
    refine gk_ret rfl (resv_tmp rfl (resv_tmp rfl .nil)) (List.nil_sublist _) ?_
    exact ⟨rfl, rfl⟩
  · skip
    refine gl_cons (gs_val (val_move rfl) rfl rfl rfl ?_)
    refine gl_cons (gs_val (val_gtr rfl rfl) rfl rfl rfl ?_)
    refine gl_cons (gs_val (val_pick_f rfl rfl) rfl rfl rfl ?_)
    refine gl_nil ?_
    refine gk_seq ?_
    refine gc_if rfl (fun h13 => ?_) (fun h13 => ?_)
    · skip
      refine gc_seq ?_
      refine gc_region ?_
      refine gl_cons (gs_val (val_assign rfl) rfl rfl rfl ?_)
      refine gl_cons (gs_val (val_assign rfl) rfl rfl rfl ?_)
      refine gl_nil ?_
      refine gk_seq ?_
      refine gc_ret ?_
      refine gk_seq_ret ?_
      refine gk_ret rfl (resv_tmp rfl (resv_tmp rfl .nil)) (List.nil_sublist _) ?_
      exact ⟨rfl, rfl⟩
    · exact absurd ⟨by omega, by omega⟩ h

/-- baize/chance.Needed -/
theorem cNeeded_ok (ba : Option Addr) (n cap : Nat) (l : List (BitVec 64)) (hn : l.length = n) (hl : n ≤ 1048576) (m v : Int) (h : Sides m) (hv : 1 ≤ v) (hv2 : v ≤ m) : Pure Try.prog 92 ([I64 m, I64 v, .slice ba n cap]).toArray (fun w => Row w [] ba (l.flatMap digL)) (.tuple #[U64 (needB m v (sumB l)), I64 0]) := by
  obtain ⟨h1, h2⟩ := id h
  have hne := sides_ne m h
  refine spec_walk (n := 54) Try.func92 rfl rfl rfl (fun w0 hpre => ?_)
  refine gc_seq ?_
  refine gc_region ?_
  refine gl_cons (gs_val (val_assign rfl) rfl rfl rfl ?_)
  refine gl_cons (gs_val (val_assign rfl) rfl rfl rfl ?_)
  refine gl_nil ?_
  refine gk_seq ?_
  refine gc_seq ?_
  refine gc_seq ?_
  refine gc_region ?_
  refine gl_cons (gs_val (val_move rfl) rfl rfl rfl ?_)
  refine gl_cons (gs_pure (enters kcall130 (.cons rfl .nil)) (right_spec m) rfl rfl rfl (fun _ _ => trivial) ?_)
  refine gl_cons (gs_val (val_no (val_not_dec rfl) (fun hh => hh h)) rfl rfl rfl ?_)
  refine gl_cons (gs_val (val_move rfl) rfl rfl rfl ?_)
  refine gl_cons (gs_val (val_move rfl) rfl rfl rfl ?_)
  refine gl_cons (gs_val (val_no (val_lss rfl rfl) (by omega)) rfl rfl rfl ?_)
  refine gl_cons (gs_val (val_pick_f rfl rfl) rfl rfl rfl ?_)
  refine gl_cons (gs_val (val_move rfl) rfl rfl rfl ?_)
  refine gl_cons (gs_val (val_move rfl) rfl rfl rfl ?_)
  refine gl_cons (gs_val (val_move rfl) rfl rfl rfl ?_)
  refine gl_cons (gs_val (val_no (val_gtr rfl rfl) (by omega)) rfl rfl rfl ?_)
  refine gl_cons (gs_val (val_pick_f rfl rfl) rfl rfl rfl ?_)
  refine gl_nil ?_
  refine gk_seq ?_
  refine gc_false rfl ?_
  refine gc_skip ?_
  refine gk_seq ?_
  refine gc_seq ?_
  refine gc_region ?_
  refine gl_cons (gs_val (val_move rfl) rfl rfl rfl ?_)
  refine gl_cons (gs_pure (enters kcall131 (.cons rfl .nil)) (sum18_spec _ _ _ l hn hl) rfl rfl rfl (row_of_sees (sees_row hpre)) ?_)
  refine gl_cons (gs_val (val_move rfl) rfl rfl rfl ?_)
  refine gl_cons (gs_val (val_conv64 rfl kis3 kun23) rfl rfl rfl ?_)
  refine gl_cons (gs_val (val_move rfl) rfl rfl rfl ?_)
  refine gl_cons (gs_val (val_subI rfl rfl (by omega)) rfl rfl rfl ?_)
  refine gl_cons (gs_val (val_conv64 rfl kis3 kun23) rfl rfl rfl ?_)
  refine gl_cons (gs_val (val_assign rfl) rfl rfl rfl ?_)
  refine gl_cons (gs_val (val_assign rfl) rfl rfl rfl ?_)
  refine gl_cons (gs_val (val_assign rfl) rfl rfl rfl ?_)
  refine gl_nil ?_
  refine gk_seq ?_
  refine gc_seq ?_
  refine gc_region ?_
  refine gl_cons (gs_val (val_move rfl) rfl rfl rfl ?_)
  refine gl_cons (gs_val (val_move rfl) rfl rfl rfl ?_)
  refine gl_cons (gs_val (val_add64 rfl rfl rfl rfl) rfl rfl rfl ?_)
  refine gl_cons (gs_val (val_move rfl) rfl rfl rfl ?_)
  refine gl_cons (gs_val (val_move rfl) rfl rfl rfl ?_)
  refine gl_cons (gs_val (val_rem64 rfl rfl rfl rfl (by assumption)) rfl rfl rfl ?_)
  refine gl_cons (gs_val (val_sub64 rfl rfl rfl rfl) rfl rfl rfl ?_)
  refine gl_cons (gs_val (val_move rfl) rfl rfl rfl ?_)
  refine gl_cons (gs_val (val_rem64 rfl rfl rfl rfl (by assumption)) rfl rfl rfl ?_)
  refine gl_cons (gs_val (val_assign rfl) rfl rfl rfl ?_)
  refine gl_nil ?_
  refine gk_seq ?_
  refine gc_seq ?_
  refine gc_seq ?_
  refine gc_region ?_
  refine gl_cons (gs_val (val_move rfl) rfl rfl rfl ?_)
  refine gl_cons (gs_val (val_neg64 rfl rfl) rfl rfl rfl ?_)
  refine gl_cons (gs_val (val_assign rfl) rfl rfl rfl ?_)
  refine gl_nil ?_
  refine gk_seq ?_
  refine gc_seq ?_
  refine gc_region ?_
  refine gl_cons (gs_val (val_move rfl) rfl rfl rfl ?_)
  refine gl_cons (gs_val (val_ne64 (j := 0#64) rfl rfl rfl rfl) rfl rfl rfl ?_)
  refine gl_cons (gs_val (val_move rfl) rfl rfl rfl ?_)
  refine gx_split 45 rfl (fun h45 => ?_) (fun h45 => ?_)
  · skip
    refine gl_cons (gs_val (val_move rfl) rfl rfl rfl ?_)
    refine gl_cons (gs_val (val_move rfl) rfl rfl rfl ?_)
    refine gl_cons (gs_val (val_geq rfl rfl) rfl rfl rfl ?_)
    refine gl_cons (gs_val (val_pick_t rfl rfl) rfl rfl rfl ?_)
    refine gl_nil ?_
    refine gk_seq ?_
    refine gc_if rfl (fun h49 => ?_) (fun h49 => ?_)
    · skip
      refine gc_seq ?_
      refine gc_region ?_
      refine gl_cons (gs_val (val_move rfl) rfl rfl rfl ?_)
      refine gl_cons (gs_val (val_move rfl) rfl rfl rfl ?_)
      refine gl_cons (gs_val (val_add64 rfl rfl rfl rfl) rfl rfl rfl ?_)
      refine gl_cons (gs_val (val_assign rfl) rfl rfl rfl ?_)
      refine gl_cons (gs_val (val_assign rfl) rfl rfl rfl ?_)
      refine gl_nil ?_
      refine gk_seq ?_
      refine gc_ret ?_
      refine gk_seq_ret ?_
      refine gk_ret rfl (resv_tmp rfl (resv_tmp rfl .nil)) (List.nil_sublist _) ?_
      first | exact ⟨congrArg (fun z => Value.tuple #[U64 z, I64 0]) (need_hi m v _ h hv hv2 h45 h49), rfl⟩ | exact ⟨congrArg (fun z => Value.tuple #[U64 z, I64 0]) (need_lo m v _ h hv hv2 (.inr h49)), rfl⟩ | exact ⟨congrArg (fun z => Value.tuple #[U64 z, I64 0]) (need_lo m v _ h hv hv2 (.inl (Decidable.not_not.1 h45))), rfl⟩
    · skip
      refine gc_skip ?_
      refine gk_seq ?_
      refine gc_seq ?_
      refine gc_region ?_
      refine gl_cons (gs_val (val_move rfl) rfl rfl rfl ?_)
      refine gl_cons (gs_val (val_assign rfl) rfl rfl rfl ?_)
      refine gl_cons (gs_val (val_assign rfl) rfl rfl rfl ?_)
      refine gl_nil ?_
      refine gk_seq ?_
      refine gc_ret ?_
      refine gk_ret rfl (resv_tmp rfl (resv_tmp rfl .nil)) (List.nil_sublist _) ?_
      first | exact ⟨congrArg (fun z => Value.tuple #[U64 z, I64 0]) (need_hi m v _ h hv hv2 h45 h49), rfl⟩ | exact ⟨congrArg (fun z => Value.tuple #[U64 z, I64 0]) (need_lo m v _ h hv hv2 (.inr h49)), rfl⟩ | exact ⟨congrArg (fun z => Value.tuple #[U64 z, I64 0]) (need_lo m v _ h hv hv2 (.inl (Decidable.not_not.1 h45))), rfl⟩
  · skip
    refine gl_cons (gs_skip rfl rfl rfl ?_)
    refine gl_cons (gs_skip rfl rfl rfl ?_)
    refine gl_cons (gs_skip rfl rfl rfl ?_)
    refine gl_cons (gs_val (val_pick_f rfl rfl) rfl rfl rfl ?_)
    refine gl_nil ?_
    refine gk_seq ?_
    refine gc_false rfl ?_
    refine gc_skip ?_
    refine gk_seq ?_
    refine gc_seq ?_
    refine gc_region ?_
    refine gl_cons (gs_val (val_move rfl) rfl rfl rfl ?_)
    refine gl_cons (gs_val (val_assign rfl) rfl rfl rfl ?_)
    refine gl_cons (gs_val (val_assign rfl) rfl rfl rfl ?_)
    refine gl_nil ?_
    refine gk_seq ?_
    refine gc_ret ?_
    refine gk_ret rfl (resv_tmp rfl (resv_tmp rfl .nil)) (List.nil_sublist _) ?_
    first | exact ⟨congrArg (fun z => Value.tuple #[U64 z, I64 0]) (need_hi m v _ h hv hv2 h45 h49), rfl⟩ | exact ⟨congrArg (fun z => Value.tuple #[U64 z, I64 0]) (need_lo m v _ h hv hv2 (.inr h49)), rfl⟩ | exact ⟨congrArg (fun z => Value.tuple #[U64 z, I64 0]) (need_lo m v _ h hv hv2 (.inl (Decidable.not_not.1 h45))), rfl⟩

/-- baize/chance.Needed -/
theorem cNeeded_no (ba : Option Addr) (n cap : Nat) (l : List (BitVec 64)) (hn : l.length = n) (hl : n ≤ 1048576) (m v : Int) (h : ¬ (Sides m ∧ 1 ≤ v ∧ v ≤ m)) : Pure Try.prog 92 ([I64 m, I64 v, .slice ba n cap]).toArray (fun _ => True) (.tuple #[U64 0#64, I64 2]) := by
  refine spec_walk (n := 54) Try.func92 rfl rfl rfl (fun w0 hpre => ?_)
  refine gc_seq ?_
  refine gc_region ?_
  refine gl_cons (gs_val (val_assign rfl) rfl rfl rfl ?_)
  refine gl_cons (gs_val (val_assign rfl) rfl rfl rfl ?_)
  refine gl_nil ?_
  refine gk_seq ?_
  refine gc_seq ?_
  refine gc_seq ?_
  refine gc_region ?_
  refine gl_cons (gs_val (val_move rfl) rfl rfl rfl ?_)
  refine gl_cons (gs_pure (enters kcall130 (.cons rfl .nil)) (right_spec m) rfl rfl rfl (fun _ _ => trivial) ?_)
  refine gl_cons (gs_val (val_not_dec rfl) rfl rfl rfl ?_)
  refine gl_cons (gs_val (val_move rfl) rfl rfl rfl ?_)
  refine gx_split 16 rfl (fun h16 => ?_) (fun h16 => ?_)
  · skip
    refine gl_cons (gs_skip rfl rfl rfl ?_)
    refine gl_cons (gs_skip rfl rfl rfl ?_)
    refine gl_cons (gs_val (val_pick_t rfl rfl) rfl rfl rfl ?_)
    refine gl_cons (gs_val (val_move rfl) rfl rfl rfl ?_)
    refine gl_cons (gs_skip rfl rfl rfl ?_)
    refine gl_cons (gs_skip rfl rfl rfl ?_)
    refine gl_cons (gs_skip rfl rfl rfl ?_)
    refine gl_cons (gs_val (val_pick_t rfl rfl) rfl rfl rfl ?_)
    refine gl_nil ?_
    refine gk_seq ?_
    refine gc_true rfl ?_
    refine gc_seq ?_
    refine gc_region ?_
    refine gl_cons (gs_val (val_assign rfl) rfl rfl rfl ?_)
    refine gl_cons (gs_val (val_assign rfl) rfl rfl rfl ?_)
    refine gl_nil ?_
    refine gk_seq ?_
    refine gc_ret ?_
    refine gk_seq_ret ?_
    refine gk_ret rfl (resv_tmp rfl (resv_tmp rfl .nil)) (List.nil_sublist _) ?_
    exact ⟨rfl, rfl⟩
  · skip
    refine gl_cons (gs_val (val_move rfl) rfl rfl rfl ?_)
    refine gl_cons (gs_val (val_lss rfl rfl) rfl rfl rfl ?_)
    refine gl_cons (gs_val (val_pick_f rfl rfl) rfl rfl rfl ?_)
    refine gl_cons (gs_val (val_move rfl) rfl rfl rfl ?_)
    refine gx_split 20 rfl (fun h20 => ?_) (fun h20 => ?_)
    · skip
      refine gl_cons (gs_skip rfl rfl rfl ?_)
      refine gl_cons (gs_skip rfl rfl rfl ?_)
      refine gl_cons (gs_skip rfl rfl rfl ?_)
      refine gl_cons (gs_val (val_pick_t rfl rfl) rfl rfl rfl ?_)
      refine gl_nil ?_
      refine gk_seq ?_
      refine gc_true rfl ?_
      refine gc_seq ?_
      refine gc_region ?_
      refine gl_cons (gs_val (val_assign rfl) rfl rfl rfl ?_)
      refine gl_cons (gs_val (val_assign rfl) rfl rfl rfl ?_)
      refine gl_nil ?_
      refine gk_seq ?_
      refine gc_ret ?_
      refine gk_seq_ret ?_
      refine gk_ret rfl (resv_tmp rfl (resv_tmp rfl .nil)) (List.nil_sublist _) ?_
      exact ⟨rfl, rfl⟩
    · skip
      refine gl_cons (gs_val (val_move rfl) rfl rfl rfl ?_)
      refine gl_cons (gs_val (val_move rfl) rfl rfl rfl ?_)
      refine gl_cons (gs_val (val_gtr rfl rfl) rfl rfl rfl ?_)
      refine gl_cons (gs_val (val_pick_f rfl rfl) rfl rfl rfl ?_)
      refine gl_nil ?_
      refine gk_seq ?_
      refine gc_if rfl (fun h24 => ?_) (fun h24 => ?_)
      · skip
        refine gc_seq ?_
        refine gc_region ?_
        refine gl_cons (gs_val (val_assign rfl) rfl rfl rfl ?_)
        refine gl_cons (gs_val (val_assign rfl) rfl rfl rfl ?_)
        refine gl_nil ?_
        refine gk_seq ?_
        refine gc_ret ?_
        refine gk_seq_ret ?_
        refine gk_ret rfl (resv_tmp rfl (resv_tmp rfl .nil)) (List.nil_sublist _) ?_
        exact ⟨rfl, rfl⟩
      · exact absurd ⟨Decidable.not_not.1 h16, by omega, by omega⟩ h

/-- baize/baizeref18.Needed -/
theorem rNeeded_no (ba : Option Addr) (n cap : Nat) (l : List (BitVec 64)) (hn : l.length = n) (hl : n ≤ 1048576) (m v : Int) (h : ¬ (Sides m ∧ 1 ≤ v ∧ v ≤ m)) : Pure Try.prog 93 ([I64 m, I64 v, .slice ba n cap]).toArray (fun _ => True) (.tuple #[U64 0#64, I64 2]) := by
  refine spec_walk (n := 44) Try.func93 rfl rfl rfl (fun w0 hpre => ?_)
  refine gc_seq ?_
  refine gc_region ?_
  refine gl_cons (gs_val (val_assign rfl) rfl rfl rfl ?_)
  refine gl_cons (gs_val (val_assign rfl) rfl rfl rfl ?_)
  refine gl_nil ?_
  refine gk_seq ?_
  refine gc_seq ?_
  refine gc_seq ?_
  refine gc_region ?_
  refine gl_cons (gs_val (val_move rfl) rfl rfl rfl ?_)
  refine gl_cons (gs_val (val_lss rfl rfl) rfl rfl rfl ?_)
  refine gl_cons (gs_val (val_move rfl) rfl rfl rfl ?_)
  refine gx_split 13 rfl (fun h13 => ?_) (fun h13 => ?_)
  · skip
    refine gl_cons (gs_skip rfl rfl rfl ?_)
    refine gl_cons (gs_skip rfl rfl rfl ?_)
    refine gl_cons (gs_val (val_pick_t rfl rfl) rfl rfl rfl ?_)
    refine gl_cons (gs_val (val_move rfl) rfl rfl rfl ?_)
    refine gl_cons (gs_skip rfl rfl rfl ?_)
    refine gl_cons (gs_skip rfl rfl rfl ?_)
    refine gl_cons (gs_val (val_pick_t rfl rfl) rfl rfl rfl ?_)
    refine gl_cons (gs_val (val_move rfl) rfl rfl rfl ?_)
    refine gl_cons (gs_skip rfl rfl rfl ?_)
    refine gl_cons (gs_skip rfl rfl rfl ?_)
    refine gl_cons (gs_skip rfl rfl rfl ?_)
    refine gl_cons (gs_val (val_pick_t rfl rfl) rfl rfl rfl ?_)
    refine gl_nil ?_
    refine gk_seq ?_
    refine gc_true rfl ?_
    refine gc_seq ?_
    refine gc_region ?_
    refine gl_cons (gs_val (val_assign rfl) rfl rfl rfl ?_)
    refine gl_cons (gs_val (val_assign rfl) rfl rfl rfl ?_)
    refine gl_nil ?_
    refine gk_seq ?_
    refine gc_ret ?_
    refine gk_seq_ret ?_
    refine gk_ret rfl (resv_tmp rfl (resv_tmp rfl .nil)) (List.nil_sublist _) ?_
    exact ⟨rfl, rfl⟩
  · skip
    refine gl_cons (gs_val (val_move rfl) rfl rfl rfl ?_)
    refine gl_cons (gs_val (val_gtr rfl rfl) rfl rfl rfl ?_)
    refine gl_cons (gs_val (val_pick_f rfl rfl) rfl rfl rfl ?_)
    refine gl_cons (gs_val (val_move rfl) rfl rfl rfl ?_)
    refine gx_split 17 rfl (fun h17 => ?_) (fun h17 => ?_)
    · skip
      refine gl_cons (gs_skip rfl rfl rfl ?_)
      refine gl_cons (gs_skip rfl rfl rfl ?_)
      refine gl_cons (gs_val (val_pick_t rfl rfl) rfl rfl rfl ?_)
      refine gl_cons (gs_val (val_move rfl) rfl rfl rfl ?_)
      refine gl_cons (gs_skip rfl rfl rfl ?_)
      refine gl_cons (gs_skip rfl rfl rfl ?_)
      refine gl_cons (gs_skip rfl rfl rfl ?_)
      refine gl_cons (gs_val (val_pick_t rfl rfl) rfl rfl rfl ?_)
      refine gl_nil ?_
      refine gk_seq ?_
      refine gc_true rfl ?_
      refine gc_seq ?_
      refine gc_region ?_
      refine gl_cons (gs_val (val_assign rfl) rfl rfl rfl ?_)
      refine gl_cons (gs_val (val_assign rfl) rfl rfl rfl ?_)
      refine gl_nil ?_
      refine gk_seq ?_
      refine gc_ret ?_
      refine gk_seq_ret ?_
      refine gk_ret rfl (resv_tmp rfl (resv_tmp rfl .nil)) (List.nil_sublist _) ?_
      exact ⟨rfl, rfl⟩
    · skip
      refine gl_cons (gs_val (val_move rfl) rfl rfl rfl ?_)
      refine gl_cons (gs_val (val_lss rfl rfl) rfl rfl rfl ?_)
      refine gl_cons (gs_val (val_pick_f rfl rfl) rfl rfl rfl ?_)
      refine gl_cons (gs_val (val_move rfl) rfl rfl rfl ?_)
      refine gx_split 21 rfl (fun h21 => ?_) (fun h21 => ?_)
      · skip
        refine gl_cons (gs_skip rfl rfl rfl ?_)
        refine gl_cons (gs_skip rfl rfl rfl ?_)
        refine gl_cons (gs_skip rfl rfl rfl ?_)
        refine gl_cons (gs_val (val_pick_t rfl rfl) rfl rfl rfl ?_)
        refine gl_nil ?_
        refine gk_seq ?_
        refine gc_true rfl ?_
        refine gc_seq ?_
        refine gc_region ?_
        refine gl_cons (gs_val (val_assign rfl) rfl rfl rfl ?_)
        refine gl_cons (gs_val (val_assign rfl) rfl rfl rfl ?_)
        refine gl_nil ?_
        refine gk_seq ?_
        refine gc_ret ?_
        refine gk_seq_ret ?_
        refine gk_ret rfl (resv_tmp rfl (resv_tmp rfl .nil)) (List.nil_sublist _) ?_
        exact ⟨rfl, rfl⟩
      · skip
        refine gl_cons (gs_val (val_move rfl) rfl rfl rfl ?_)
        refine gl_cons (gs_val (val_move rfl) rfl rfl rfl ?_)
        refine gl_cons (gs_val (val_gtr rfl rfl) rfl rfl rfl ?_)
        refine gl_cons (gs_val (val_pick_f rfl rfl) rfl rfl rfl ?_)
        refine gl_nil ?_
        refine gk_seq ?_
        refine gc_if rfl (fun h25 => ?_) (fun h25 => ?_)
        · skip
          refine gc_seq ?_
          refine gc_region ?_
          refine gl_cons (gs_val (val_assign rfl) rfl rfl rfl ?_)
          refine gl_cons (gs_val (val_assign rfl) rfl rfl rfl ?_)
          refine gl_nil ?_
          refine gk_seq ?_
          refine gc_ret ?_
          refine gk_seq_ret ?_
          refine gk_ret rfl (resv_tmp rfl (resv_tmp rfl .nil)) (List.nil_sublist _) ?_
          exact ⟨rfl, rfl⟩
        · exact absurd ⟨⟨by omega, by omega⟩, by omega, by omega⟩ h

/-- baize/baizeref18.Needed -/
theorem rNeeded_ok (ba : Option Addr) (n cap : Nat) (l : List (BitVec 64)) (hn : l.length = n) (hl : n ≤ 1048576) (m v : Int) (hl2 : n ≤ 65536) (h : Sides m) (hv : 1 ≤ v) (hv2 : v ≤ m) : Pure Try.prog 93 ([I64 m, I64 v, .slice ba n cap]).toArray (fun w => Row w [] ba (l.flatMap digL)) (.tuple #[U64 (needB m v (sumB l)), I64 0]) := by
  obtain ⟨h1, h2⟩ := id h
  refine spec_walk (n := 44) Try.func93 rfl rfl rfl (fun w0 hpre => ?_)
  refine gc_seq ?_
  refine gc_region ?_
  refine gl_cons (gs_val (val_assign rfl) rfl rfl rfl ?_)
  refine gl_cons (gs_val (val_assign rfl) rfl rfl rfl ?_)
  refine gl_nil ?_
  refine gk_seq ?_
  refine gc_seq ?_
  refine gc_seq ?_
  refine gc_region ?_
  refine gl_cons (gs_val (val_move rfl) rfl rfl rfl ?_)
  refine gl_cons (gs_val (val_no (val_lss rfl rfl) (by omega)) rfl rfl rfl ?_)
  refine gl_cons (gs_val (val_move rfl) rfl rfl rfl ?_)
  refine gl_cons (gs_val (val_move rfl) rfl rfl rfl ?_)
  refine gl_cons (gs_val (val_no (val_gtr rfl rfl) (by omega)) rfl rfl rfl ?_)
  refine gl_cons (gs_val (val_pick_f rfl rfl) rfl rfl rfl ?_)
  refine gl_cons (gs_val (val_move rfl) rfl rfl rfl ?_)
  refine gl_cons (gs_val (val_move rfl) rfl rfl rfl ?_)
  refine gl_cons (gs_val (val_no (val_lss rfl rfl) (by omega)) rfl rfl rfl ?_)
  refine gl_cons (gs_val (val_pick_f rfl rfl) rfl rfl rfl ?_)
  refine gl_cons (gs_val (val_move rfl) rfl rfl rfl ?_)
  refine gl_cons (gs_val (val_move rfl) rfl rfl rfl ?_)
  refine gl_cons (gs_val (val_move rfl) rfl rfl rfl ?_)
  refine gl_cons (gs_val (val_no (val_gtr rfl rfl) (by omega)) rfl rfl rfl ?_)
  refine gl_cons (gs_val (val_pick_f rfl rfl) rfl rfl rfl ?_)
  refine gl_nil ?_
  refine gk_seq ?_
  refine gc_false rfl ?_
  refine gc_skip ?_
  refine gk_seq ?_
  refine gc_seq ?_
  refine gc_region ?_
  refine gl_cons (gs_val (val_assign rfl) rfl rfl rfl ?_)
  refine gl_nil ?_
  refine gk_seq ?_
  refine gc_block ?_
  refine gc_loop (σ := Nat) (I := fun k => k ≤ (needB m v (sumB l)).toNat) (μ := fun k => (needB m v (sumB l)).toNat - k) (EI := fun k => [(8, U64 (BitVec.ofNat 64 k)), (0, I64 m), (1, I64 v), (2, .slice ba n cap)]) (LI := fun k => []) 0 ?_ ?_ ?_ ?_
  · exact Nat.zero_le _
  · exact (.cons rfl (.cons rfl (.cons rfl (.cons rfl .nil))))
  · exact fun _ h => h.sub (List.nil_sublist _)
  · intro k hI
    have hI : k ≤ (needB m v (sumB l)).toNat := hI
    refine gc_block ?_
    refine gc_seq ?_
    refine gc_region ?_
    refine gl_cons (gs_val (val_move rfl) rfl rfl rfl ?_)
    refine gl_cons (gs_buildSlice (zs := []) ksl42 kze22 rfl rfl .nil .nil rfl rfl (fun b28 => ?_))
    refine gl_cons (gs_val (val_move rfl) rfl rfl rfl ?_)
    refine gl_cons (gs_append ksl42 kze22 rfl rfl rfl rfl rfl rfl (own_lit (xs := []) rfl) (fun _ => by first | exact .here | exact .headR | exact .app | exact .tail .here | exact .tail .headR | exact .tail .app | exact .tail (.tail .here) | exact .tail (.tail .headR) | exact .tail (.tail .app) | exact .tail (.tail (.tail .here)) | exact .tail (.tail (.tail .headR)) | exact .tail (.tail (.tail .app)) | exact .tail (.tail (.tail (.tail .here))) | exact .tail (.tail (.tail (.tail .headR))) | exact .tail (.tail (.tail (.tail .app))) | exact .tail (.tail (.tail (.tail (.tail .here)))) | exact .tail (.tail (.tail (.tail (.tail .headR)))) | exact .tail (.tail (.tail (.tail (.tail .app)))) | exact .appr .here | exact .appr .headR | exact .appr .app | exact .tail (.appr .here) | exact .tail (.appr .headR) | exact .tail (.appr .app) | exact .tail (.tail (.appr .here)) | exact .tail (.tail (.appr .headR)) | exact .tail (.tail (.appr .app)) | exact .appr (.tail .here) | exact .appr (.tail .headR) | exact .appr (.tail .app) | exact .appr (.tail (.tail .here)) | exact .appr (.tail (.tail .headR)) | exact .appr (.tail (.tail .app)) | exact .appr (.appr .here) | exact .appr (.appr .headR) | exact .appr (.appr .app) | exact .tail (.appr (.appr .here)) | exact .tail (.appr (.appr .headR)) | exact .tail (.appr (.appr .app)) | exact .appr (.appr (.tail .here)) | exact .appr (.appr (.tail .headR)) | exact .appr (.appr (.tail .app)) | exact .appr (.appr (.appr .here)) | exact .appr (.appr (.appr .headR)) | exact .appr (.appr (.appr .app))) (brings_slice ksl42 (sees_row hpre) (by rw [dig_len, hn]) (one_digs _)) (by omega) (fun ba30 c30 N30 hown30 => ?_))
    refine gl_cons (gs_val (val_move rfl) rfl rfl rfl ?_)
    refine gl_cons (gs_pure (enters kcall39 (.cons rfl .nil)) (rfromNum_spec _) rfl rfl rfl (fun _ _ => trivial) ?_)
    refine gl_cons (gs_buildSlice (zs := [.int .u8 0, .int .u8 0, .int .u8 0, .int .u8 0, .int .u8 0, .int .u8 0, .int .u8 0, .int .u8 0]) ksl42 kze22 rfl rfl (.cons rfl .nil) (.cons rfl rfl rfl (by simp) (by first | ((with_reducible refine splice_all _ _ ?_); simp; done) | (simp only [splice, stL, digL, List.take_succ_cons, List.take_zero, List.drop_succ_cons, List.drop_zero, List.length_cons, List.length_nil, Nat.reduceAdd, Nat.reduceMul, Nat.zero_add, Nat.zero_mul, List.cons_append, List.nil_append]; exact rfl)) .nil) rfl rfl (fun b33 => ?_))
    refine gl_cons (gs_append ksl42 kze22 rfl rfl rfl rfl rfl rfl (hown30) (fun _ => by first | exact .here | exact .headR | exact .app | exact .tail .here | exact .tail .headR | exact .tail .app | exact .tail (.tail .here) | exact .tail (.tail .headR) | exact .tail (.tail .app) | exact .tail (.tail (.tail .here)) | exact .tail (.tail (.tail .headR)) | exact .tail (.tail (.tail .app)) | exact .tail (.tail (.tail (.tail .here))) | exact .tail (.tail (.tail (.tail .headR))) | exact .tail (.tail (.tail (.tail .app))) | exact .tail (.tail (.tail (.tail (.tail .here)))) | exact .tail (.tail (.tail (.tail (.tail .headR)))) | exact .tail (.tail (.tail (.tail (.tail .app)))) | exact .appr .here | exact .appr .headR | exact .appr .app | exact .tail (.appr .here) | exact .tail (.appr .headR) | exact .tail (.appr .app) | exact .tail (.tail (.appr .here)) | exact .tail (.tail (.appr .headR)) | exact .tail (.tail (.appr .app)) | exact .appr (.tail .here) | exact .appr (.tail .headR) | exact .appr (.tail .app) | exact .appr (.tail (.tail .here)) | exact .appr (.tail (.tail .headR)) | exact .appr (.tail (.tail .app)) | exact .appr (.appr .here) | exact .appr (.appr .headR) | exact .appr (.appr .app) | exact .tail (.appr (.appr .here)) | exact .tail (.appr (.appr .headR)) | exact .tail (.appr (.appr .app)) | exact .appr (.appr (.tail .here)) | exact .appr (.appr (.tail .headR)) | exact .appr (.appr (.tail .app)) | exact .appr (.appr (.appr .here)) | exact .appr (.appr (.appr .headR)) | exact .appr (.appr (.appr .app))) (brings_slice ksl42 (sees_all (by repeat (first | exact .head _ | refine .tail _ ?_ | refine List.mem_append_right _ ?_))) rfl (one_dig _)) (by omega) (fun ba34 c34 N34 hown34 => ?_))
    have hs34 : sumB (l ++ [BitVec.ofNat 64 k]) = sumB l + BitVec.ofNat 64 k := by rw [sumB_append, sumB_one]
    refine gl_cons (gs_pure (enters kcall91 (.cons rfl (.cons rfl .nil))) (rThrow_ok ba34 (0 + n + 1) c34 (l ++ [BitVec.ofNat 64 k]) (by simp; omega) (by omega) m h) rfl rfl rfl (row_of_sees ((hown34.look (by repeat (first | exact .here | exact .headR | exact .app | refine .tail ?_ | refine .appr ?_))).cast (by simp))) ?_)
    refine gl_cons (gs_val (val_move rfl) rfl rfl rfl ?_)
    refine gl_cons (gs_val (val_extract rfl rfl) rfl rfl rfl ?_)
    refine gl_cons (gs_val (val_extract rfl rfl) rfl rfl rfl ?_)
    refine gl_cons (gs_val (val_assign rfl) rfl rfl rfl ?_)
    refine gl_cons (gs_val (val_assign rfl) rfl rfl rfl ?_)
    refine gl_nil ?_
    refine gk_seq ?_
    refine gc_seq ?_
    refine gc_seq ?_
    refine gc_region ?_
    refine gl_cons (gs_val (val_move rfl) rfl rfl rfl ?_)
    refine gl_cons (gs_val (val_move rfl) rfl rfl rfl ?_)
    refine gl_cons (gs_val (val_eql rfl rfl) rfl rfl rfl ?_)
    refine gl_nil ?_
    refine gk_seq ?_
    refine gc_if rfl (fun h40 => ?_) (fun h40 => ?_)
    · have hk : ¬ k < (needB m v (sumB l)).toNat := fun hk => throw_less m v _ h hv hv2 k hk (by rw [← hs34]; exact h40)
      have hke : k = (needB m v (sumB l)).toNat := by omega
      refine gc_seq ?_
      refine gc_region ?_
      refine gl_cons (gs_val (val_move rfl) rfl rfl rfl ?_)
      refine gl_cons (gs_val (val_assign rfl) rfl rfl rfl ?_)
      refine gl_cons (gs_val (val_assign rfl) rfl rfl rfl ?_)
      refine gl_nil ?_
      refine gk_seq ?_
      refine gc_ret ?_
      refine gk_seq_ret ?_
      refine gk_block_ret ?_
      refine gk_loop_ret ?_
      refine gk_block_ret ?_
      refine gk_ret rfl (resv_tmp rfl (resv_tmp rfl .nil)) (List.nil_sublist _) ?_
      exact ⟨congrArg (fun z => Value.tuple #[U64 z, I64 0]) (by rw [hke, ofNat_self]), rfl⟩
    · have hk : k < (needB m v (sumB l)).toNat := by
        rcases Nat.lt_or_ge k (needB m v (sumB l)).toNat with hh | hh
        · exact hh
        · exact absurd (by rw [hs34, show k = (needB m v (sumB l)).toNat from by omega, ofNat_self]; exact throw_need m v (sumB l) h hv hv2) h40
      refine gc_skip ?_
      refine gk_seq ?_
      refine gc_region ?_
      refine gl_cons (gs_val (val_move rfl) rfl rfl rfl ?_)
      refine gl_cons (gs_val (val_add64 (j := 1#64) rfl rfl rfl rfl) rfl rfl rfl ?_)
      refine gl_cons (gs_val (val_assign rfl) rfl rfl rfl ?_)
      refine gl_nil ?_
      refine gk_block ?_
      refine gk_again (k + 1) ?_ ?_ ?_ ?_
      · show k + 1 ≤ (needB m v (sumB l)).toNat; omega
      · show (needB m v (sumB l)).toNat - (k + 1) < (needB m v (sumB l)).toNat - k; omega
      · exact (.cons (congrArg (fun x => some (U64 x)) (by rw [← BitVec.ofNat_add])) (.cons (rfl) (.cons (rfl) (.cons (rfl) .nil))))
      · exact fun _ h => h.sub (List.nil_sublist _)

/-- baize/chance.Order$1 -/
theorem pick_spec (bg bo : Nat) (ba bo' : Option Addr) (n cap k c s : Nat) (g : List Bool) (l : List Nat) (N : List Ent) (hn : g.length = n) (hs : s < n) (hown : Own 3 1 bo' k c (l.map NV) N) (hk : k ≤ 1048576) : Turns Try.prog 129 ([I64 (s : Int), .pointer (some ⟨bg, 0, none⟩), .pointer (some ⟨bo, 0, none⟩)]).toArray (fun w => Row w ((⟨bo, .cells [.slice bo' k c].toArray 105 (0, 0)⟩ :: N).map Ent.b) (some ⟨bg, 0, none⟩) [.slice ba n cap] ∧ Row w ((⟨bo, .cells [.slice bo' k c].toArray 105 (0, 0)⟩ :: N).map Ent.b) ba (g.map Value.bool)) (⟨bo, .cells [.slice bo' k c].toArray 105 (0, 0)⟩ :: N) (fun v : Option Addr × Nat × List Ent => Own 3 1 v.1 (pickL g l s).length v.2.1 ((pickL g l s).map NV) v.2.2) (fun _ => .tuple #[]) (fun v => ⟨bo, .cells [.slice v.1 (pickL g l s).length v.2.1].toArray 105 (0, 0)⟩ :: v.2.2) := by
  have hlk : l.length = k := by have := hown.len; simpa using this
  have hsg : s < g.length := by omega
  refine spec_walk (n := 13) Try.func129 rfl rfl rfl (fun w0 hpre => ?_)
  refine gc_seq ?_
  refine gc_region ?_
  refine gl_cons (gs_val (val_load1 kag104 rfl (sees_row hpre.1) rfl) rfl rfl rfl ?_)
  refine gl_cons (gs_val (val_move rfl) rfl rfl rfl ?_)
  refine gl_cons (gs_val (val_indexSli (m := s) ksl104 rfl rfl (by omega) (by omega) (sees_row hpre.2) (by (try simp only [List.length_map, Nat.mul_one, dig_len, inc_len, List.length_append, List.length_cons, List.length_nil, List.length_replicate]); omega)) rfl rfl rfl ?_)
  refine gl_cons (gs_val (val_cast (v := .bool (decide (g[s] = true))) (val_load1 kag4 rfl ((sees_row hpre.2).elem hsg) rfl) (congrArg Value.bool Bool.decide_eq_true.symm)) rfl rfl rfl ?_)
  refine gl_cons (gs_val (val_not_dec rfl) rfl rfl rfl ?_)
  refine gl_nil ?_
  refine gk_seq ?_
  refine gc_if rfl (fun h8 => ?_) (fun h8 => ?_)
  · have hp := pick_in g l s hsg h8
    refine gc_region ?_
    refine gl_cons (gs_val (val_load1 kag105 rfl (sees_mem (by repeat (first | exact .head _ | refine .tail _ ?_ | refine List.mem_append_right _ ?_))) rfl) rfl rfl rfl ?_)
    refine gl_cons (gs_val (val_move rfl) rfl rfl rfl ?_)
    refine gl_cons (gs_buildSlice (zs := [.int .i64 0]) ksl105 kze3 rfl rfl (.cons rfl .nil) (.cons rfl rfl rfl (by simp) (by first | ((with_reducible refine splice_all _ _ ?_); simp; done) | (simp only [splice, stL, digL, List.take_succ_cons, List.take_zero, List.drop_succ_cons, List.drop_zero, List.length_cons, List.length_nil, Nat.reduceAdd, Nat.reduceMul, Nat.zero_add, Nat.zero_mul, List.cons_append, List.nil_append]; exact rfl)) .nil) rfl rfl (fun b11 => ?_))
    refine gl_cons (gs_append ksl105 kze3 rfl rfl rfl rfl rfl rfl (hown) (fun _ => by first | exact .here | exact .headR | exact .app | exact .tail .here | exact .tail .headR | exact .tail .app | exact .tail (.tail .here) | exact .tail (.tail .headR) | exact .tail (.tail .app) | exact .tail (.tail (.tail .here)) | exact .tail (.tail (.tail .headR)) | exact .tail (.tail (.tail .app)) | exact .tail (.tail (.tail (.tail .here))) | exact .tail (.tail (.tail (.tail .headR))) | exact .tail (.tail (.tail (.tail .app))) | exact .tail (.tail (.tail (.tail (.tail .here)))) | exact .tail (.tail (.tail (.tail (.tail .headR)))) | exact .tail (.tail (.tail (.tail (.tail .app)))) | exact .appr .here | exact .appr .headR | exact .appr .app | exact .tail (.appr .here) | exact .tail (.appr .headR) | exact .tail (.appr .app) | exact .tail (.tail (.appr .here)) | exact .tail (.tail (.appr .headR)) | exact .tail (.tail (.appr .app)) | exact .appr (.tail .here) | exact .appr (.tail .headR) | exact .appr (.tail .app) | exact .appr (.tail (.tail .here)) | exact .appr (.tail (.tail .headR)) | exact .appr (.tail (.tail .app)) | exact .appr (.appr .here) | exact .appr (.appr .headR) | exact .appr (.appr .app) | exact .tail (.appr (.appr .here)) | exact .tail (.appr (.appr .headR)) | exact .tail (.appr (.appr .app)) | exact .appr (.appr (.tail .here)) | exact .appr (.appr (.tail .headR)) | exact .appr (.appr (.tail .app)) | exact .appr (.appr (.appr .here)) | exact .appr (.appr (.appr .headR)) | exact .appr (.appr (.appr .app))) (brings_slice ksl105 (sees_all (by repeat (first | exact .head _ | refine .tail _ ?_ | refine List.mem_append_right _ ?_))) rfl (one_map (f := NV) (fun _ => rfl) [s])) (by omega) (fun ba12 c12 N12 hown12 => ?_))
    refine gl_cons (gs_store ksz105 rfl rfl rfl rfl rfl rfl (by first | exact .head | exact .tail .head | exact .tail (.tail .head) | exact .tail (.tail (.tail .head)) | exact .tail (.tail (.tail (.tail .head))) | exact .tail (.tail (.tail (.tail (.tail .head))))) (by simp) (by first | ((with_reducible refine splice_all _ _ ?_); simp; done) | (simp only [splice, stL, digL, List.take_succ_cons, List.take_zero, List.drop_succ_cons, List.drop_zero, List.length_cons, List.length_nil, Nat.reduceAdd, Nat.reduceMul, Nat.zero_add, Nat.zero_mul, List.cons_append, List.nil_append]; exact rfl)) ?_)
    refine gl_nil ?_
    first | (refine gk_end rfl .nil (List.sublist_cons_self _ _) ?_; (first | (refine ⟨(ba12, c12, N12), ?_, rfl, ?_⟩; (show Own 3 1 ba12 (pickL g l s).length c12 ((pickL g l s).map NV) N12; rw [hp, List.length_append, hlk, List.map_append]; exact hown12); (show _ = ⟨bo, .cells [.slice ba12 (pickL g l s).length c12].toArray 105 (0, 0)⟩ :: N12; rw [hp, List.length_append, hlk]; rfl)) | (refine ⟨(bo', c, N), ?_, rfl, ?_⟩; (show Own 3 1 bo' (pickL g l s).length c ((pickL g l s).map NV) N; rw [hp, hlk]; exact hown); (show _ = ⟨bo, .cells [.slice bo' (pickL g l s).length c].toArray 105 (0, 0)⟩ :: N; rw [hp, hlk]; done)))) | (refine gk_end rfl .nil (List.Sublist.refl _) ?_; (first | (refine ⟨(ba12, c12, N12), ?_, rfl, ?_⟩; (show Own 3 1 ba12 (pickL g l s).length c12 ((pickL g l s).map NV) N12; rw [hp, List.length_append, hlk, List.map_append]; exact hown12); (show _ = ⟨bo, .cells [.slice ba12 (pickL g l s).length c12].toArray 105 (0, 0)⟩ :: N12; rw [hp, List.length_append, hlk]; rfl)) | (refine ⟨(bo', c, N), ?_, rfl, ?_⟩; (show Own 3 1 bo' (pickL g l s).length c ((pickL g l s).map NV) N; rw [hp, hlk]; exact hown); (show _ = ⟨bo, .cells [.slice bo' (pickL g l s).length c].toArray 105 (0, 0)⟩ :: N; rw [hp, hlk]; done))))
  · have hp := pick_out g l s hsg (Decidable.not_not.1 h8)
    refine gc_skip ?_
    first | (refine gk_end rfl .nil (List.sublist_cons_self _ _) ?_; (first | (refine ⟨(ba12, c12, N12), ?_, rfl, ?_⟩; (show Own 3 1 ba12 (pickL g l s).length c12 ((pickL g l s).map NV) N12; rw [hp, List.length_append, hlk, List.map_append]; exact hown12); (show _ = ⟨bo, .cells [.slice ba12 (pickL g l s).length c12].toArray 105 (0, 0)⟩ :: N12; rw [hp, List.length_append, hlk]; rfl)) | (refine ⟨(bo', c, N), ?_, rfl, ?_⟩; (show Own 3 1 bo' (pickL g l s).length c ((pickL g l s).map NV) N; rw [hp, hlk]; exact hown); (show _ = ⟨bo, .cells [.slice bo' (pickL g l s).length c].toArray 105 (0, 0)⟩ :: N; rw [hp, hlk]; done)))) | (refine gk_end rfl .nil (List.Sublist.refl _) ?_; (first | (refine ⟨(ba12, c12, N12), ?_, rfl, ?_⟩; (show Own 3 1 ba12 (pickL g l s).length c12 ((pickL g l s).map NV) N12; rw [hp, List.length_append, hlk, List.map_append]; exact hown12); (show _ = ⟨bo, .cells [.slice ba12 (pickL g l s).length c12].toArray 105 (0, 0)⟩ :: N12; rw [hp, List.length_append, hlk]; rfl)) | (refine ⟨(bo', c, N), ?_, rfl, ?_⟩; (show Own 3 1 bo' (pickL g l s).length c ((pickL g l s).map NV) N; rw [hp, hlk]; exact hown); (show _ = ⟨bo, .cells [.slice bo' (pickL g l s).length c].toArray 105 (0, 0)⟩ :: N; rw [hp, hlk]; done))))

/-- baize/chance.Order -/
theorem cOrder_in (ba : Option Addr) (n cap : Nat) (g : List Bool) (hn : g.length = n) (j : Nat) (hj : j < n) (hmax : n ≤ 4096) : Makes Try.prog 86 ([I64 (j : Int), .slice ba n cap]).toArray (fun w => Row w [] ba (g.map Value.bool)) (fun s : Option Addr × Nat × List Ent => Own 3 1 s.1 (ordL j g n).length s.2.1 ((ordL j g n).map NV) s.2.2) (fun s => .slice s.1 (ordL j g n).length s.2.1) (fun s => s.2.2) := by
  refine spec_walk (n := 33) Try.func86 rfl rfl rfl (fun w0 hpre => ?_)
  refine gc_seq ?_
  refine gc_region ?_
  refine gl_cons (gs_box rfl rfl rfl rfl (fun b3 => ?_))
  refine gl_cons (gs_val (val_assign rfl) rfl rfl rfl ?_)
  refine gl_nil ?_
  refine gk_seq ?_
  refine gc_seq ?_
  refine gc_seq ?_
  refine gc_region ?_
  refine gl_cons (gs_val (val_move rfl) rfl rfl rfl ?_)
  refine gl_cons (gs_val (val_no (val_lss rfl rfl) (by omega)) rfl rfl rfl ?_)
  refine gl_cons (gs_val (val_move rfl) rfl rfl rfl ?_)
  refine gl_cons (gs_val (val_move rfl) rfl rfl rfl ?_)
  refine gl_cons (gs_val (val_load1 kag104 rfl (sees_mem (by repeat (first | exact .head _ | refine .tail _ ?_ | refine List.mem_append_right _ ?_))) rfl) rfl rfl rfl ?_)
  refine gl_cons (gs_val (val_lenSli ksl104 rfl) rfl rfl rfl ?_)
  refine gl_cons (gs_val (val_no (val_geq rfl rfl) (by omega)) rfl rfl rfl ?_)
  refine gl_cons (gs_val (val_pick_f rfl rfl) rfl rfl rfl ?_)
  refine gl_nil ?_
  refine gk_seq ?_
  refine gc_false rfl ?_
  refine gc_skip ?_
  refine gk_seq ?_
  refine gc_seq ?_
  refine gc_region ?_
  refine gl_cons (gs_alloc kze105 rfl rfl rfl (fun b5 => ?_))
  refine gl_nil ?_
  refine gk_seq ?_
  refine gc_seq ?_
  refine gc_region ?_
  refine gl_cons (gs_val (val_makeFunc .nil (.cons rfl (.cons rfl .nil))) rfl rfl rfl ?_)
  refine gl_cons (gs_val (val_assign rfl) rfl rfl rfl ?_)
  refine gl_nil ?_
  refine gk_seq ?_
  refine gc_seq ?_
  refine gc_seq ?_
  refine gc_region ?_
  refine gl_cons (gs_val (val_load1 kag104 rfl (sees_mem (by repeat (first | exact .head _ | refine .tail _ ?_ | refine List.mem_append_right _ ?_))) rfl) rfl rfl rfl ?_)
  refine gl_cons (gs_val (val_lenSli ksl104 rfl) rfl rfl rfl ?_)
  refine gl_cons (gs_val (val_move rfl) rfl rfl rfl ?_)
  refine gl_nil ?_
  refine gk_seq ?_
  refine gc_block ?_
  refine gc_loop (σ := Nat × Option Addr × Nat × List Ent) (I := fun v => v.1 ≤ n ∧ Own 3 1 v.2.1 (ordL j g v.1).length v.2.2.1 ((ordL j g v.1).map NV) v.2.2.2) (μ := fun v => n - v.1) (EI := fun v => [(6, .func (.func 129) [].toArray [.pointer (some ⟨b3, 0, none⟩), .pointer (some ⟨b5, 0, none⟩)].toArray), (19, I64 (v.1 : Int)), (0, I64 (j : Int)), (3, .pointer (some ⟨b3, 0, none⟩)), (5, .pointer (some ⟨b5, 0, none⟩)), (18, I64 (n : Int))]) (LI := fun v => ⟨b5, .cells [.slice v.2.1 (ordL j g v.1).length v.2.2.1].toArray 105 (0, 0)⟩ :: (v.2.2.2 ++ [⟨b3, .cells ([.slice ba n cap] : List Value).toArray 104 (0, 0)⟩])) (0, none, 0, []) ?_ ?_ ?_ ?_
  · exact ⟨Nat.zero_le _, .nil⟩
  · exact (.cons rfl (.cons rfl (.cons rfl (.cons rfl (.cons rfl (.cons rfl .nil))))))
  · exact fun _ h => h
  · intro ⟨k, bo', c, N⟩ ⟨hkn, hown⟩
    dsimp only
    have hkn : k ≤ n := hkn
    have hown : Own 3 1 bo' (ordL j g k).length c ((ordL j g k).map NV) N := hown
    have hb := ordL_bound j g k
    refine gc_seq ?_
    refine gc_region ?_
    refine gl_cons (gs_val (val_lss rfl rfl) rfl rfl rfl ?_)
    refine gl_nil ?_
    refine gk_seq ?_
    refine gc_seq ?_
    refine gc_if rfl (fun hk => ?_) (fun hk => ?_)
    · have hk : k < n := by omega
      have hst := ord_step j g k (by omega)
      refine gc_skip ?_
      refine gk_seq ?_
      refine gc_seq ?_
      refine gc_block ?_
      refine gc_seq ?_
      refine gc_region ?_
      refine gl_cons (gs_val (val_move rfl) rfl rfl rfl ?_)
      refine gl_cons (gs_val (val_assign rfl) rfl rfl rfl ?_)
      refine gl_nil ?_
      refine gk_seq ?_
      refine gc_region ?_
      refine gl_cons (gs_val (val_move rfl) rfl rfl rfl ?_)
      refine gl_cons (gs_val (val_move rfl) rfl rfl rfl ?_)
      refine gl_cons (gs_val (val_addI rfl rfl (by omega)) rfl rfl rfl ?_)
      refine gl_cons (gs_val (val_move rfl) rfl rfl rfl ?_)
      refine gl_cons (gs_val (val_addI rfl rfl (by omega)) rfl rfl rfl ?_)
      refine gl_cons (gs_val (val_load1 kag104 rfl (sees_mem (by repeat (first | exact .head _ | refine .tail _ ?_ | refine List.mem_append_right _ ?_))) rfl) rfl rfl rfl ?_)
      refine gl_cons (gs_val (val_lenSli ksl104 rfl) rfl rfl rfl ?_)
      refine gl_cons (gs_val (val_cast (v := I64 ((turnN j n k : Nat) : Int)) (val_remI rfl rfl (by omega)) rfl) rfl rfl rfl ?_)
      refine gl_cons (gs_turns (enters_dyn kcall129 rfl (.cons rfl .nil)) (pick_spec b3 b5 ba bo' n cap (ordL j g k).length c (turnN j n k) g (ordL j g k) N hn (turnN_lt j n k (by omega)) hown (by omega)) rfl rfl rfl (.cons .head (.app (R := [⟨b3, .cells ([.slice ba n cap] : List Value).toArray 104 (0, 0)⟩]))) (fun w hi => ⟨row_of_ownL (own_lit (e := 104) (size := 1) (n := 1) (xs := [.slice ba n cap]) rfl) (.cons .head (.app (R := [⟨b3, .cells ([.slice ba n cap] : List Value).toArray 104 (0, 0)⟩]))) .here w hi, row_of_rowL hpre (.cons .head (.app (R := [⟨b3, .cells ([.slice ba n cap] : List Value).toArray 104 (0, 0)⟩]))) w hi⟩) (fun ⟨bo2, c2, N2⟩ hp2 => ?_))
      have hown2 : Own 3 1 bo2 (ordL j g (k + 1)).length c2 ((ordL j g (k + 1)).map NV) N2 := by rw [hst, hn]; exact hp2
      refine gx_perm (M := ⟨b5, .cells [.slice bo2 (ordL j g (k + 1)).length c2].toArray 105 (0, 0)⟩ :: (N2 ++ [⟨b3, .cells ([.slice ba n cap] : List Value).toArray 104 (0, 0)⟩])) (by rw [hst, hn]; exact .refl _) ?_
      refine gl_nil ?_
      refine gk_block ?_
      refine gk_seq ?_
      refine gc_region ?_
      refine gl_cons (gs_val (val_addI rfl rfl (by omega)) rfl rfl rfl ?_)
      refine gl_cons (gs_val (val_move rfl) rfl rfl rfl ?_)
      refine gl_nil ?_
      refine gk_again (k + 1, bo2, c2, N2) ?_ ?_ ?_ ?_
      · exact ⟨by show k + 1 ≤ n; omega, hown2⟩
      · show n - (k + 1) < n - k; omega
      · exact (.cons (rfl) (.cons (rfl) (.cons (rfl) (.cons (rfl) (.cons (rfl) (.cons (rfl) .nil))))))
      · exact fun _ h => h
    · have e : k = n := by omega
      subst e
      refine gc_exit ?_
      refine gk_seq_exit ?_
      refine gk_loop_exit ?_
      refine gk_block_exit ?_
      refine gk_seq ?_
      refine gc_seq ?_
      refine gc_region ?_
      refine gl_cons (gs_val (val_load1 kag105 rfl (sees_mem (by repeat (first | exact .head _ | refine .tail _ ?_ | refine List.mem_append_right _ ?_))) rfl) rfl rfl rfl ?_)
      refine gl_cons (gs_val (val_assign rfl) rfl rfl rfl ?_)
      refine gl_nil ?_
      refine gk_seq ?_
      refine gc_ret ?_
      refine gk_ret rfl (resv_tmp rfl .nil) (List.Sublist.cons _ (List.sublist_append_left _ _)) ?_
      exact ⟨(bo', c, N), hown, rfl, rfl⟩

/-- baize/chance.Order -/
theorem cOrder_out (ba : Option Addr) (n cap : Nat) (g : List Bool) (hn : g.length = n) (m : Int) (h : m < 0 ∨ (n : Int) ≤ m) : Pure Try.prog 86 ([I64 m, .slice ba n cap]).toArray (fun _ => True) (.slice none 0 0) := by
  refine spec_walk (n := 33) Try.func86 rfl rfl rfl (fun w0 hpre => ?_)
  refine gc_seq ?_
  refine gc_region ?_
  refine gl_cons (gs_box rfl rfl rfl rfl (fun b3 => ?_))
  refine gl_cons (gs_val (val_assign rfl) rfl rfl rfl ?_)
  refine gl_nil ?_
  refine gk_seq ?_
  refine gc_seq ?_
  refine gc_seq ?_
  refine gc_region ?_
  refine gl_cons (gs_val (val_move rfl) rfl rfl rfl ?_)
  refine gl_cons (gs_val (val_lss rfl rfl) rfl rfl rfl ?_)
  refine gl_cons (gs_val (val_move rfl) rfl rfl rfl ?_)
  refine gx_split 10 rfl (fun h10 => ?_) (fun h10 => ?_)
  · skip
    refine gl_cons (gs_skip rfl rfl rfl ?_)
    refine gl_cons (gs_skip rfl rfl rfl ?_)
    refine gl_cons (gs_skip rfl rfl rfl ?_)
    refine gl_cons (gs_skip rfl rfl rfl ?_)
    refine gl_cons (gs_val (val_pick_t rfl rfl) rfl rfl rfl ?_)
    refine gl_nil ?_
    refine gk_seq ?_
    refine gc_true rfl ?_
    refine gc_seq ?_
    refine gc_region ?_
    refine gl_cons (gs_val (val_assign rfl) rfl rfl rfl ?_)
    refine gl_nil ?_
    refine gk_seq ?_
    refine gc_ret ?_
    refine gk_seq_ret ?_
    refine gk_ret rfl (resv_tmp rfl .nil) (List.nil_sublist _) ?_
    exact ⟨rfl, rfl⟩
  · skip
    refine gl_cons (gs_val (val_move rfl) rfl rfl rfl ?_)
    refine gl_cons (gs_val (val_load1 kag104 rfl (sees_mem (by repeat (first | exact .head _ | refine .tail _ ?_ | refine List.mem_append_right _ ?_))) rfl) rfl rfl rfl ?_)
    refine gl_cons (gs_val (val_lenSli ksl104 rfl) rfl rfl rfl ?_)
    refine gl_cons (gs_val (val_geq rfl rfl) rfl rfl rfl ?_)
    refine gl_cons (gs_val (val_pick_f rfl rfl) rfl rfl rfl ?_)
    refine gl_nil ?_
    refine gk_seq ?_
    refine gc_if rfl (fun h15 => ?_) (fun h15 => ?_)
    · skip
      refine gc_seq ?_
      refine gc_region ?_
      refine gl_cons (gs_val (val_assign rfl) rfl rfl rfl ?_)
      refine gl_nil ?_
      refine gk_seq ?_
      refine gc_ret ?_
      refine gk_seq_ret ?_
      refine gk_ret rfl (resv_tmp rfl .nil) (List.nil_sublist _) ?_
      exact ⟨rfl, rfl⟩
    · exfalso; omega

theorem cOrder_spec (ba : Option Addr) (n cap : Nat) (g : List Bool) (hn : g.length = n) (m : Int) (hmax : n ≤ 4096) : Makes Try.prog 86 ([I64 m, .slice ba n cap]).toArray (fun w => Row w [] ba (g.map Value.bool)) (fun s : Option Addr × Nat × List Ent => Own 3 1 s.1 (orderI m g).length s.2.1 ((orderI m g).map NV) s.2.2) (fun s => .slice s.1 (orderI m g).length s.2.1) (fun s => s.2.2) := by
  by_cases h : 0 ≤ m ∧ m < (n : Int)
  · obtain ⟨j, rfl⟩ : ∃ j : Nat, m = (j : Int) := ⟨m.toNat, by omega⟩
    rw [orderI_in j g (by omega), hn]
    exact cOrder_in ba n cap g hn j (by omega) hmax
  · rw [orderI_out m g (by omega)]
    intro w0 h1 h2 h3
    exact (cOrder_out ba n cap g hn m (by omega) w0 h1 h2 trivial).mono fun e w ⟨v, L', e1, ⟨e2, e3⟩, e4⟩ => ⟨v, L', e1, ⟨(none, 0, []), .nil, e2, e3⟩, e4⟩

/-- baize/baizeref18.Order -/
theorem rOrder_in (ba : Option Addr) (n cap : Nat) (g : List Bool) (hn : g.length = n) (j : Nat) (hj : j < n) (hmax : n ≤ 4096) : Makes Try.prog 88 ([I64 (j : Int), .slice ba n cap]).toArray (fun w => Row w [] ba (g.map Value.bool)) (fun s : Option Addr × Nat × List Ent => Own 3 1 s.1 (ordL j g n).length s.2.1 ((ordL j g n).map NV) s.2.2) (fun s => .slice s.1 (ordL j g n).length s.2.1) (fun s => s.2.2) := by
  refine spec_walk (n := 40) Try.func88 rfl rfl rfl (fun w0 hpre => ?_)
  refine gc_seq ?_
  refine gc_region ?_
  refine gl_cons (gs_val (val_assign rfl) rfl rfl rfl ?_)
  refine gl_nil ?_
  refine gk_seq ?_
  refine gc_seq ?_
  refine gc_region ?_
  refine gl_cons (gs_buildSlice (zs := []) ksl105 kze3 rfl rfl .nil .nil rfl rfl (fun b8 => ?_))
  refine gl_cons (gs_val (val_assign rfl) rfl rfl rfl ?_)
  refine gl_nil ?_
  refine gk_seq ?_
  refine gc_seq ?_
  refine gc_seq ?_
  refine gc_region ?_
  refine gl_cons (gs_val (val_move rfl) rfl rfl rfl ?_)
  refine gl_cons (gs_val (val_no (val_lss rfl rfl) (by omega)) rfl rfl rfl ?_)
  refine gl_cons (gs_val (val_move rfl) rfl rfl rfl ?_)
  refine gl_cons (gs_val (val_move rfl) rfl rfl rfl ?_)
  refine gl_cons (gs_val (val_move rfl) rfl rfl rfl ?_)
  refine gl_cons (gs_val (val_lenSli ksl104 rfl) rfl rfl rfl ?_)
  refine gl_cons (gs_val (val_no (val_geq rfl rfl) (by omega)) rfl rfl rfl ?_)
  refine gl_cons (gs_val (val_pick_f rfl rfl) rfl rfl rfl ?_)
  refine gl_nil ?_
  refine gk_seq ?_
  refine gc_false rfl ?_
  refine gc_skip ?_
  refine gk_seq ?_
  refine gc_seq ?_
  refine gc_seq ?_
  refine gc_region ?_
  refine gl_cons (gs_val (val_assign rfl) rfl rfl rfl ?_)
  refine gl_nil ?_
  refine gk_seq ?_
  refine gc_block ?_
  refine gc_loop (σ := Nat × Option Addr × Nat × List Ent) (I := fun v => v.1 ≤ n ∧ Own 3 1 v.2.1 (ordL j g v.1).length v.2.2.1 ((ordL j g v.1).map NV) v.2.2.2) (μ := fun v => n - v.1) (EI := fun v => [(5, .slice v.2.1 (ordL j g v.1).length v.2.2.1), (6, I64 ((v.1 : Int) + 1)), (0, I64 (j : Int)), (1, .slice ba n cap)]) (LI := fun v => v.2.2.2) (0, some ⟨b8, 0, none⟩, 0, [⟨b8, .cells ([] : List Value).toArray 3 (0, 0)⟩]) ?_ ?_ ?_ ?_
  · exact ⟨Nat.zero_le _, own_lit (xs := []) rfl⟩
  · exact (.cons rfl (.cons rfl (.cons rfl (.cons rfl .nil))))
  · exact fun _ h => h
  · intro ⟨k, bo', c, N⟩ ⟨hkn, hown⟩
    dsimp only
    have hkn : k ≤ n := hkn
    have hown : Own 3 1 bo' (ordL j g k).length c ((ordL j g k).map NV) N := hown
    have hb := ordL_bound j g k
    refine gc_seq ?_
    refine gc_seq ?_
    refine gc_region ?_
    refine gl_cons (gs_val (val_move rfl) rfl rfl rfl ?_)
    refine gl_cons (gs_val (val_move rfl) rfl rfl rfl ?_)
    refine gl_cons (gs_val (val_lenSli ksl104 rfl) rfl rfl rfl ?_)
    refine gl_cons (gs_val (val_leq rfl rfl) rfl rfl rfl ?_)
    refine gl_nil ?_
    refine gk_seq ?_
    refine gc_if rfl (fun hk => ?_) (fun hk => ?_)
    · have hk : k < n := by omega
      have hst : ordL j g (k + 1) = pickL g (ordL j g k) (turnN j n k) := by have := ord_step j g k (by omega); rwa [hn] at this
      have hs : turnN j n k < g.length := by rw [hn]; exact turnN_lt j n k (by omega)
      refine gc_skip ?_
      refine gk_seq ?_
      refine gc_seq ?_
      refine gc_block ?_
      refine gc_seq ?_
      refine gc_region ?_
      refine gl_cons (gs_val (val_move rfl) rfl rfl rfl ?_)
      refine gl_cons (gs_val (val_move rfl) rfl rfl rfl ?_)
      refine gl_cons (gs_val (val_addI rfl rfl (by omega)) rfl rfl rfl ?_)
      refine gl_cons (gs_val (val_move rfl) rfl rfl rfl ?_)
      refine gl_cons (gs_val (val_lenSli ksl104 rfl) rfl rfl rfl ?_)
      refine gl_cons (gs_val (val_cast (v := I64 ((turnN j n k : Nat) : Int)) (val_remI rfl rfl (by omega)) (congrArg I64 (turn_int2 j k n (by omega)))) rfl rfl rfl ?_)
      refine gl_cons (gs_val (val_assign rfl) rfl rfl rfl ?_)
      refine gl_nil ?_
      refine gk_seq ?_
      refine gc_seq ?_
      refine gc_region ?_
      refine gl_cons (gs_val (val_move rfl) rfl rfl rfl ?_)
      refine gl_cons (gs_val (val_move rfl) rfl rfl rfl ?_)
      refine gl_cons (gs_val (val_indexSli (m := turnN j n k) ksl104 rfl rfl (by omega) (by omega) (sees_row hpre) (by (try simp only [List.length_map, Nat.mul_one, dig_len, inc_len, List.length_append, List.length_cons, List.length_nil, List.length_replicate]); omega)) rfl rfl rfl ?_)
      refine gl_cons (gs_val (val_cast (v := .bool (decide (g[turnN j n k] = true))) (val_load1 kag4 rfl ((sees_row hpre).elem hs) rfl) (congrArg Value.bool Bool.decide_eq_true.symm)) rfl rfl rfl ?_)
      refine gl_cons (gs_val (val_not_dec rfl) rfl rfl rfl ?_)
      refine gl_nil ?_
      refine gk_seq ?_
      refine gc_if rfl (fun h34 => ?_) (fun h34 => ?_)
      · have hp := pick_in g (ordL j g k) _ hs h34
        refine gc_region ?_
        refine gl_cons (gs_val (val_move rfl) rfl rfl rfl ?_)
        refine gl_cons (gs_val (val_move rfl) rfl rfl rfl ?_)
        refine gl_cons (gs_buildSlice (zs := [.int .i64 0]) ksl105 kze3 rfl rfl (.cons rfl .nil) (.cons rfl rfl rfl (by simp) (by first | ((with_reducible refine splice_all _ _ ?_); simp; done) | (simp only [splice, stL, digL, List.take_succ_cons, List.take_zero, List.drop_succ_cons, List.drop_zero, List.length_cons, List.length_nil, Nat.reduceAdd, Nat.reduceMul, Nat.zero_add, Nat.zero_mul, List.cons_append, List.nil_append]; exact rfl)) .nil) rfl rfl (fun b37 => ?_))
        refine gl_cons (gs_append ksl105 kze3 rfl rfl rfl rfl rfl rfl (hown) (fun _ => by first | exact .here | exact .headR | exact .app | exact .tail .here | exact .tail .headR | exact .tail .app | exact .tail (.tail .here) | exact .tail (.tail .headR) | exact .tail (.tail .app) | exact .tail (.tail (.tail .here)) | exact .tail (.tail (.tail .headR)) | exact .tail (.tail (.tail .app)) | exact .tail (.tail (.tail (.tail .here))) | exact .tail (.tail (.tail (.tail .headR))) | exact .tail (.tail (.tail (.tail .app))) | exact .tail (.tail (.tail (.tail (.tail .here)))) | exact .tail (.tail (.tail (.tail (.tail .headR)))) | exact .tail (.tail (.tail (.tail (.tail .app)))) | exact .appr .here | exact .appr .headR | exact .appr .app | exact .tail (.appr .here) | exact .tail (.appr .headR) | exact .tail (.appr .app) | exact .tail (.tail (.appr .here)) | exact .tail (.tail (.appr .headR)) | exact .tail (.tail (.appr .app)) | exact .appr (.tail .here) | exact .appr (.tail .headR) | exact .appr (.tail .app) | exact .appr (.tail (.tail .here)) | exact .appr (.tail (.tail .headR)) | exact .appr (.tail (.tail .app)) | exact .appr (.appr .here) | exact .appr (.appr .headR) | exact .appr (.appr .app) | exact .tail (.appr (.appr .here)) | exact .tail (.appr (.appr .headR)) | exact .tail (.appr (.appr .app)) | exact .appr (.appr (.tail .here)) | exact .appr (.appr (.tail .headR)) | exact .appr (.appr (.tail .app)) | exact .appr (.appr (.appr .here)) | exact .appr (.appr (.appr .headR)) | exact .appr (.appr (.appr .app))) (brings_slice ksl105 (sees_all (by repeat (first | exact .head _ | refine .tail _ ?_ | refine List.mem_append_right _ ?_))) rfl (one_map (f := NV) (fun _ => rfl) [turnN j n k])) (by omega) (fun ba38 c38 N38 hown38 => ?_))
        refine gl_cons (gs_val (val_assign rfl) rfl rfl rfl ?_)
        refine gl_nil ?_
        refine gk_block ?_
        refine gk_seq ?_
        refine gc_region ?_
        refine gl_cons (gs_val (val_move rfl) rfl rfl rfl ?_)
        refine gl_cons (gs_val (val_addI rfl rfl (by omega)) rfl rfl rfl ?_)
        refine gl_cons (gs_val (val_assign rfl) rfl rfl rfl ?_)
        refine gl_nil ?_
        first | refine gk_again (k + 1, ba38, c38, N38) ?_ ?_ ?_ ?_ | refine gk_again (k + 1, bo', c, N) ?_ ?_ ?_ ?_
        · first | exact ⟨by show k + 1 ≤ n; omega, by show Own 3 1 ba38 (ordL j g (k + 1)).length c38 ((ordL j g (k + 1)).map NV) N38; rw [hst, hp, List.length_append, List.map_append]; exact hown38⟩ | exact ⟨by show k + 1 ≤ n; omega, by show Own 3 1 bo' (ordL j g (k + 1)).length c ((ordL j g (k + 1)).map NV) N; rw [hst, hp]; exact hown⟩
        · show n - (k + 1) < n - k; omega
        · first | exact .cons (congrArg (fun z => some (Value.slice ba38 z c38)) (by show _ = (ordL j g (k + 1)).length; rw [hst, hp, List.length_append]; rfl)) (.cons rfl (.cons rfl (.cons rfl .nil))) | exact .cons (congrArg (fun z => some (Value.slice bo' z c)) (by show _ = (ordL j g (k + 1)).length; rw [hst, hp])) (.cons rfl (.cons rfl (.cons rfl .nil)))
        · first | exact fun _ h => h | exact fun _ h => h.sub (List.sublist_cons_self _ _)
      · have hp := pick_out g (ordL j g k) _ hs (Decidable.not_not.1 h34)
        refine gc_skip ?_
        refine gk_block ?_
        refine gk_seq ?_
        refine gc_region ?_
        refine gl_cons (gs_val (val_move rfl) rfl rfl rfl ?_)
        refine gl_cons (gs_val (val_addI rfl rfl (by omega)) rfl rfl rfl ?_)
        refine gl_cons (gs_val (val_assign rfl) rfl rfl rfl ?_)
        refine gl_nil ?_
        first | refine gk_again (k + 1, ba38, c38, N38) ?_ ?_ ?_ ?_ | refine gk_again (k + 1, bo', c, N) ?_ ?_ ?_ ?_
        · first | exact ⟨by show k + 1 ≤ n; omega, by show Own 3 1 ba38 (ordL j g (k + 1)).length c38 ((ordL j g (k + 1)).map NV) N38; rw [hst, hp, List.length_append, List.map_append]; exact hown38⟩ | exact ⟨by show k + 1 ≤ n; omega, by show Own 3 1 bo' (ordL j g (k + 1)).length c ((ordL j g (k + 1)).map NV) N; rw [hst, hp]; exact hown⟩
        · show n - (k + 1) < n - k; omega
        · first | exact .cons (congrArg (fun z => some (Value.slice ba38 z c38)) (by show _ = (ordL j g (k + 1)).length; rw [hst, hp, List.length_append]; rfl)) (.cons rfl (.cons rfl (.cons rfl .nil))) | exact .cons (congrArg (fun z => some (Value.slice bo' z c)) (by show _ = (ordL j g (k + 1)).length; rw [hst, hp])) (.cons rfl (.cons rfl (.cons rfl .nil)))
        · first | exact fun _ h => h | exact fun _ h => h.sub (List.sublist_cons_self _ _)
    · have e : k = n := by omega
      subst e
      refine gc_exit ?_
      refine gk_seq_exit ?_
      refine gk_loop_exit ?_
      refine gk_block_exit ?_
      refine gk_seq ?_
      refine gc_seq ?_
      refine gc_region ?_
      refine gl_cons (gs_val (val_move rfl) rfl rfl rfl ?_)
      refine gl_cons (gs_val (val_assign rfl) rfl rfl rfl ?_)
      refine gl_nil ?_
      refine gk_seq ?_
      refine gc_ret ?_
      refine gk_ret rfl (resv_tmp rfl .nil) (List.Sublist.refl _) ?_
      exact ⟨(bo', c, N), hown, rfl, rfl⟩

/-- baize/baizeref18.Order -/
theorem rOrder_out (ba : Option Addr) (n cap : Nat) (g : List Bool) (hn : g.length = n) (m : Int) (h : m < 0 ∨ (n : Int) ≤ m) : Makes Try.prog 88 ([I64 m, .slice ba n cap]).toArray (fun _ => True) (fun s : Option Addr × Nat × List Ent => Own 3 1 s.1 ([] : List Nat).length s.2.1 (([] : List Nat).map NV) s.2.2) (fun s => .slice s.1 ([] : List Nat).length s.2.1) (fun s => s.2.2) := by
  refine spec_walk (n := 40) Try.func88 rfl rfl rfl (fun w0 hpre => ?_)
  refine gc_seq ?_
  refine gc_region ?_
  refine gl_cons (gs_val (val_assign rfl) rfl rfl rfl ?_)
  refine gl_nil ?_
  refine gk_seq ?_
  refine gc_seq ?_
  refine gc_region ?_
  refine gl_cons (gs_buildSlice (zs := []) ksl105 kze3 rfl rfl .nil .nil rfl rfl (fun b8 => ?_))
  refine gl_cons (gs_val (val_assign rfl) rfl rfl rfl ?_)
  refine gl_nil ?_
  refine gk_seq ?_
  refine gc_seq ?_
  refine gc_seq ?_
  refine gc_region ?_
  refine gl_cons (gs_val (val_move rfl) rfl rfl rfl ?_)
  refine gl_cons (gs_val (val_lss rfl rfl) rfl rfl rfl ?_)
  refine gl_cons (gs_val (val_move rfl) rfl rfl rfl ?_)
  refine gx_split 11 rfl (fun h11 => ?_) (fun h11 => ?_)
  · skip
    refine gl_cons (gs_skip rfl rfl rfl ?_)
    refine gl_cons (gs_skip rfl rfl rfl ?_)
    refine gl_cons (gs_skip rfl rfl rfl ?_)
    refine gl_cons (gs_skip rfl rfl rfl ?_)
    refine gl_cons (gs_val (val_pick_t rfl rfl) rfl rfl rfl ?_)
    refine gl_nil ?_
    refine gk_seq ?_
    refine gc_true rfl ?_
    refine gc_seq ?_
    refine gc_region ?_
    refine gl_cons (gs_val (val_move rfl) rfl rfl rfl ?_)
    refine gl_cons (gs_val (val_assign rfl) rfl rfl rfl ?_)
    refine gl_nil ?_
    refine gk_seq ?_
    refine gc_ret ?_
    refine gk_seq_ret ?_
    refine gk_ret rfl (resv_tmp rfl .nil) (List.Sublist.refl _) ?_
    exact ⟨(some ⟨b8, 0, none⟩, 0, [⟨b8, .cells ([] : List Value).toArray 3 (0, 0)⟩]), own_lit (xs := []) rfl, rfl, rfl⟩
  · skip
    refine gl_cons (gs_val (val_move rfl) rfl rfl rfl ?_)
    refine gl_cons (gs_val (val_move rfl) rfl rfl rfl ?_)
    refine gl_cons (gs_val (val_lenSli ksl104 rfl) rfl rfl rfl ?_)
    refine gl_cons (gs_val (val_geq rfl rfl) rfl rfl rfl ?_)
    refine gl_cons (gs_val (val_pick_f rfl rfl) rfl rfl rfl ?_)
    refine gl_nil ?_
    refine gk_seq ?_
    refine gc_if rfl (fun h16 => ?_) (fun h16 => ?_)
    · skip
      refine gc_seq ?_
      refine gc_region ?_
      refine gl_cons (gs_val (val_move rfl) rfl rfl rfl ?_)
      refine gl_cons (gs_val (val_assign rfl) rfl rfl rfl ?_)
      refine gl_nil ?_
      refine gk_seq ?_
      refine gc_ret ?_
      refine gk_seq_ret ?_
      refine gk_ret rfl (resv_tmp rfl .nil) (List.Sublist.refl _) ?_
      exact ⟨(some ⟨b8, 0, none⟩, 0, [⟨b8, .cells ([] : List Value).toArray 3 (0, 0)⟩]), own_lit (xs := []) rfl, rfl, rfl⟩
    · exfalso; omega

theorem rOrder_spec (ba : Option Addr) (n cap : Nat) (g : List Bool) (hn : g.length = n) (m : Int) (hmax : n ≤ 4096) : Makes Try.prog 88 ([I64 m, .slice ba n cap]).toArray (fun w => Row w [] ba (g.map Value.bool)) (fun s : Option Addr × Nat × List Ent => Own 3 1 s.1 (orderI m g).length s.2.1 ((orderI m g).map NV) s.2.2) (fun s => .slice s.1 (orderI m g).length s.2.1) (fun s => s.2.2) := by
  by_cases h : 0 ≤ m ∧ m < (n : Int)
  · obtain ⟨j, rfl⟩ : ∃ j : Nat, m = (j : Int) := ⟨m.toNat, by omega⟩
    rw [orderI_in j g (by omega), hn]
    exact rOrder_in ba n cap g hn j (by omega) hmax
  · rw [orderI_out m g (by omega)]
    exact fun w0 h1 h2 _ => rOrder_out ba n cap g hn m (by omega) w0 h1 h2 trivial

/-- baize/baizeref18.Same -/
theorem same18_spec (ba bb : Option Addr) (n m c d : Nat) (l r : List Nat) (hn : l.length = n) (hm : r.length = m) (hl : n ≤ 1048576) : Pure Try.prog 87 ([.slice ba n c, .slice bb m d]).toArray (fun w => Row w [] ba (l.map NV) ∧ Row w [] bb (r.map NV)) (.bool (decide (l = r))) := by
  subst hn
  subst hm
  refine spec_walk (n := 26) Try.func87 rfl rfl rfl (fun w0 hpre => ?_)
  refine gc_seq ?_
  refine gc_region ?_
  refine gl_cons (gs_val (val_assign rfl) rfl rfl rfl ?_)
  refine gl_nil ?_
  refine gk_seq ?_
  refine gc_seq ?_
  refine gc_seq ?_
  refine gc_region ?_
  refine gl_cons (gs_val (val_move rfl) rfl rfl rfl ?_)
  refine gl_cons (gs_val (val_lenSli ksl105 rfl) rfl rfl rfl ?_)
  refine gl_cons (gs_val (val_move rfl) rfl rfl rfl ?_)
  refine gl_cons (gs_val (val_lenSli ksl105 rfl) rfl rfl rfl ?_)
  refine gl_cons (gs_val (val_neq rfl rfl) rfl rfl rfl ?_)
  refine gl_nil ?_
  refine gk_seq ?_
  refine gc_if rfl (fun h10 => ?_) (fun h10 => ?_)
  · have hfin : ¬ l = r := fun h => h10 (by rw [h])
    refine gc_seq ?_
    refine gc_region ?_
    refine gl_cons (gs_val (val_assign rfl) rfl rfl rfl ?_)
    refine gl_nil ?_
    refine gk_seq ?_
    refine gc_ret ?_
    refine gk_seq_ret ?_
    refine gk_ret rfl (resv_tmp rfl .nil) (List.nil_sublist _) ?_
    first | exact ⟨congrArg Value.bool (decide_eq_true hfin).symm, rfl⟩ | exact ⟨congrArg Value.bool (decide_eq_false hfin).symm, rfl⟩
  · have hlen : l.length = r.length := by omega
    refine gc_skip ?_
    refine gk_seq ?_
    refine gc_seq ?_
    refine gc_seq ?_
    refine gc_region ?_
    refine gl_cons (gs_val (val_assign rfl) rfl rfl rfl ?_)
    refine gl_nil ?_
    refine gk_seq ?_
    refine gc_block ?_
    refine gc_loop (σ := Nat) (I := fun j => j ≤ l.length ∧ l.take j = r.take j) (μ := fun j => l.length - j) (EI := fun j => [(0, .slice ba l.length c), (1, .slice bb r.length d), (5, I64 (j : Int))]) (LI := fun j => []) 0 ?_ ?_ ?_ ?_
    · exact ⟨Nat.zero_le _, rfl⟩
    · exact (.cons rfl (.cons rfl (.cons rfl .nil)))
    · exact fun _ h => h.sub (List.nil_sublist _)
    · intro j ⟨hI, hI2⟩
      have hI : j ≤ l.length := hI
      have hI2 : l.take j = r.take j := hI2
      refine gc_seq ?_
      refine gc_seq ?_
      refine gc_region ?_
      refine gl_cons (gs_val (val_move rfl) rfl rfl rfl ?_)
      refine gl_cons (gs_val (val_move rfl) rfl rfl rfl ?_)
      refine gl_cons (gs_val (val_lenSli ksl105 rfl) rfl rfl rfl ?_)
      refine gl_cons (gs_val (val_lss rfl rfl) rfl rfl rfl ?_)
      refine gl_nil ?_
      refine gk_seq ?_
      refine gc_if rfl (fun hk => ?_) (fun hk => ?_)
      · have hk : j < l.length := by omega
        have hk2 : j < r.length := by omega
        refine gc_skip ?_
        refine gk_seq ?_
        refine gc_seq ?_
        refine gc_block ?_
        refine gc_seq ?_
        refine gc_drawAll kmixed (by kernel_rfl) ?_
        refine gq_val (val_move rfl) rfl rfl rfl ?_
        refine gq_val (val_move rfl) rfl rfl rfl ?_
        refine gq_val (val_indexSli ksl105 rfl rfl rfl (by omega) (sees_row hpre.1) (by (try simp only [List.length_map, Nat.mul_one, dig_len, inc_len]); omega)) rfl rfl rfl ?_
        refine gq_val (val_load1 kag3 rfl ((sees_row hpre.1).elem hk) rfl) rfl rfl rfl ?_
        refine gq_val (val_move rfl) rfl rfl rfl ?_
        refine gq_val (val_move rfl) rfl rfl rfl ?_
        refine gq_val (val_indexSli ksl105 rfl rfl rfl (by omega) (sees_row hpre.2) (by (try simp only [List.length_map, Nat.mul_one, dig_len, inc_len]); omega)) rfl rfl rfl ?_
        refine gq_val (val_load1 kag3 rfl ((sees_row hpre.2).elem hk2) rfl) rfl rfl rfl ?_
        refine gq_val (val_neq rfl rfl) rfl rfl rfl ?_
        refine gq_nil ?_
        refine gl_nil ?_
        refine gk_seq ?_
        refine gc_if rfl (fun h24 => ?_) (fun h24 => ?_)
        · have hfin : ¬ l = r := fun h => h24 (by subst h; rfl)
          refine gc_seq ?_
          refine gc_region ?_
          refine gl_cons (gs_val (val_assign rfl) rfl rfl rfl ?_)
          refine gl_nil ?_
          refine gk_seq ?_
          refine gc_ret ?_
          refine gk_block_ret ?_
          refine gk_seq_ret ?_
          refine gk_loop_ret ?_
          refine gk_block_ret ?_
          refine gk_seq_ret ?_
          refine gk_ret rfl (resv_tmp rfl .nil) (List.nil_sublist _) ?_
          first | exact ⟨congrArg Value.bool (decide_eq_true hfin).symm, rfl⟩ | exact ⟨congrArg Value.bool (decide_eq_false hfin).symm, rfl⟩
        · have hb : l[j] = r[j] := by omega
          refine gc_skip ?_
          refine gk_block ?_
          refine gk_seq ?_
          refine gc_region ?_
          refine gl_cons (gs_val (val_move rfl) rfl rfl rfl ?_)
          refine gl_cons (gs_val (val_addI rfl rfl (by omega)) rfl rfl rfl ?_)
          refine gl_cons (gs_val (val_assign rfl) rfl rfl rfl ?_)
          refine gl_nil ?_
          refine gk_again (j + 1) ?_ ?_ ?_ ?_
          · exact ⟨by show j + 1 ≤ l.length; omega, by show l.take (j + 1) = r.take (j + 1); rw [List.take_succ_eq_append_getElem hk, List.take_succ_eq_append_getElem hk2, hI2, hb]⟩
          · show l.length - (j + 1) < l.length - j; omega
          · exact (.cons (rfl) (.cons (rfl) (.cons (rfl) .nil)))
          · exact fun _ h => h.sub (List.nil_sublist _)
      · have hfin : l = r := by rw [← List.take_of_length_le (show l.length ≤ j by omega), hI2, List.take_of_length_le (by omega)]
        refine gc_exit ?_
        refine gk_seq_exit ?_
        refine gk_loop_exit ?_
        refine gk_block_exit ?_
        refine gk_seq ?_
        refine gc_seq ?_
        refine gc_region ?_
        refine gl_cons (gs_val (val_assign rfl) rfl rfl rfl ?_)
        refine gl_nil ?_
        refine gk_seq ?_
        refine gc_ret ?_
        refine gk_ret rfl (resv_tmp rfl .nil) (List.nil_sublist _) ?_
        first | exact ⟨congrArg Value.bool (decide_eq_true hfin).symm, rfl⟩ | exact ⟨congrArg Value.bool (decide_eq_false hfin).symm, rfl⟩

theorem same18_yes (ba bb : Option Addr) (n m c d : Nat) (l r : List Nat) (hn : l.length = n) (hm : r.length = m) (hl : n ≤ 1048576) (h : l = r) : Pure Try.prog 87 ([.slice ba n c, .slice bb m d]).toArray (fun w => Row w [] ba (l.map NV) ∧ Row w [] bb (r.map NV)) (.bool true) := by
  have := same18_spec ba bb n m c d l r hn hm hl
  rwa [decide_eq_true h] at this

end Go.Proofs.Ythmepionpjkcgaa
