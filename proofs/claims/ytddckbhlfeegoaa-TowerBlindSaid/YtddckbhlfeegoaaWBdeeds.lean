/- The walk of functions of the program: what each computes, for every input. -/
import Derived.Test.YtddckbhlfeegoaaWBFacts
import Derived.Test.YtddckbhlfeegoaaWBtower5
namespace Go.Proofs.Ytddckbhlfeegoaa
open Go Go.Eng
set_option linter.unusedVariables false
set_option linter.unusedSimpArgs false

/-- baize/baizelaw51.fair -/
theorem fair_spec (ba : Option Addr) (n cap : Nat) (l : List De) (hn : l.length = n) (hm : n ≤ 140737488351232) : Pure Try.prog 51 ([.slice ba n cap]).toArray (fun w => Row w [] ba (l.flatMap De.L)) (.bool (fairD l)) := by
  refine spec_walk (n := 20) Try.func51 rfl rfl rfl (fun w0 hpre => ?_)
  refine gc_seq ?_
  refine gc_region ?_
  refine gl_cons (gs_val (val_assign rfl) rfl rfl rfl ?_)
  refine gl_nil ?_
  refine gk_seq ?_
  refine gc_seq ?_
  refine gc_seq ?_
  refine gc_region ?_
  refine gl_cons (gs_val (val_assign rfl) rfl rfl rfl ?_)
  refine gl_nil ?_
  refine gk_seq ?_
  refine gc_block ?_
  refine gc_loop (σ := Nat) (I := fun v => v ≤ n ∧ ∀ j (hj : j < l.length), j < v → l[j].s.size ≤ 300) (μ := fun v => n - v) (EI := fun v => [(3, I64 (v : Int)), (0, .slice ba n cap)]) (LI := fun v => []) 0 ?_ ?_ ?_ ?_
  · exact ⟨Nat.zero_le _, fun j _ h => by omega⟩
  · exact (.cons rfl (.cons rfl .nil))
  · exact fun _ h => h.sub (List.nil_sublist _)
  · intro i ⟨hin, hall⟩
    refine gc_seq ?_
    refine gc_seq ?_
    refine gc_region ?_
    refine gl_cons (gs_val (val_move rfl) rfl rfl rfl ?_)
    refine gl_cons (gs_val (val_move rfl) rfl rfl rfl ?_)
    refine gl_cons (gs_val (val_lenSli ksl93 rfl) rfl rfl rfl ?_)
    refine gl_cons (gs_val (val_lss rfl rfl) rfl rfl rfl ?_)
    refine gl_nil ?_
    refine gk_seq ?_
    refine gc_if rfl (fun hj => ?_) (fun hj => ?_)
    · have hjn : i < n := by omega
      have hil : i < l.length := by omega
      obtain ⟨ab, ao, hab⟩ := row_addr hpre (by rw [flatK_len de_len]; omega)
      refine gc_skip ?_
      refine gk_seq ?_
      refine gc_seq ?_
      refine gc_block ?_
      refine gc_seq ?_
      refine gc_region ?_
      refine gl_cons (gs_val (val_move rfl) rfl rfl rfl ?_)
      refine gl_cons (gs_val (val_move rfl) rfl rfl rfl ?_)
      refine gl_cons (gs_val (val_cast (v := .pointer (some ⟨ab, ao + i * 12, none⟩)) (val_indexSli (m := i) ksl93 rfl rfl rfl (by omega) (sees_row hpre) (by rw [flatK_len de_len]; omega)) (idx_eq hab)) rfl rfl rfl ?_)
      refine gl_cons (gs_val (val_fieldAddr kfo96_4 rfl) rfl rfl rfl ?_)
      refine gl_cons (gs_val (val_load1 kag9 rfl ((sees_row hpre).rowKA de_len hab hil 11) rfl) rfl rfl rfl ?_)
      refine gl_cons (gs_val (val_lenStr kun9 rfl) rfl rfl rfl ?_)
      refine gl_cons (gs_val (val_gtr rfl rfl) rfl rfl rfl ?_)
      refine gl_nil ?_
      refine gk_seq ?_
      refine gc_if rfl (fun h16 => ?_) (fun h16 => ?_)
      · skip
        refine gc_seq ?_
        refine gc_region ?_
        refine gl_cons (gs_val (val_assign rfl) rfl rfl rfl ?_)
        refine gl_nil ?_
        refine gk_seq ?_
        refine gc_ret ?_
        refine gk_block_ret ?_
        refine gk_seq_ret ?_
        refine gk_loop_ret ?_
        refine gk_block_ret ?_
        refine gk_seq_ret ?_
        refine gk_ret rfl (resv_tmp rfl .nil) (List.nil_sublist _) ?_
        first | exact ⟨congrArg Value.bool (fair_bad hil (by omega)).symm, rfl⟩ | exact ⟨congrArg Value.bool (by rw [fair_end (fun j hj => hall j hj (by omega))]; exact decide_eq_decide.2 (by omega)), rfl⟩
      · skip
        refine gc_skip ?_
        refine gk_block ?_
        refine gk_seq ?_
        refine gc_region ?_
        refine gl_cons (gs_val (val_move rfl) rfl rfl rfl ?_)
        refine gl_cons (gs_val (val_addI rfl rfl (by omega)) rfl rfl rfl ?_)
        refine gl_cons (gs_val (val_assign rfl) rfl rfl rfl ?_)
        refine gl_nil ?_
        refine gk_again (i + 1) ?_ ?_ ?_ ?_
        · exact ⟨by omega, fun j hj h => if e : j = i then (by subst e; omega) else hall j hj (by omega)⟩
        · omega
        · exact (.cons (rfl) (.cons (rfl) .nil))
        · exact fun _ h => h.sub (List.nil_sublist _)
    · obtain rfl : n = i := by omega
      refine gc_exit ?_
      refine gk_seq_exit ?_
      refine gk_loop_exit ?_
      refine gk_block_exit ?_
      refine gk_seq ?_
      refine gc_seq ?_
      refine gc_region ?_
      refine gl_cons (gs_val (val_move rfl) rfl rfl rfl ?_)
      refine gl_cons (gs_val (val_lenSli ksl93 rfl) rfl rfl rfl ?_)
      refine gl_cons (gs_val (val_leq rfl rfl) rfl rfl rfl ?_)
      refine gl_cons (gs_val (val_assign rfl) rfl rfl rfl ?_)
      refine gl_nil ?_
      refine gk_seq ?_
      refine gc_ret ?_
      refine gk_ret rfl (resv_tmp rfl .nil) (List.nil_sublist _) ?_
      first | exact ⟨congrArg Value.bool (fair_bad hil (by omega)).symm, rfl⟩ | exact ⟨congrArg Value.bool (by rw [fair_end (fun j hj => hall j hj (by omega))]; exact decide_eq_decide.2 (by omega)), rfl⟩

theorem fair_is (ba : Option Addr) (n cap : Nat) (l : List De) (hn : l.length = n) (hm : n ≤ 140737488351232) {b : Bool} (hf : fairD l = b) : Pure Try.prog 51 ([.slice ba n cap]).toArray (fun w => Row w [] ba (l.flatMap De.L)) (.bool b) := hf ▸ fair_spec ba n cap l hn hm

/-- baize/baizelaw51.made -/
theorem made_raw (dr : Bool) (nc : BitVec 64) (nb : Int) (s : ByteArray)  : Pure Try.prog 53 ([.agg (deL dr true nc nb s).toArray]).toArray (fun _ => True) (apV (hintW nc) nb (.string s)) := by
  refine spec_walk (n := 34) Try.func53 rfl rfl rfl (fun w0 hpre => ?_)
  refine gc_seq ?_
  refine gc_region ?_
  refine gl_cons (gs_box rfl rfl rfl rfl (fun b1 => ?_))
  refine gl_cons (gs_alloc kze85 rfl rfl rfl (fun b2 => ?_))
  refine gl_nil ?_
  refine gk_seq ?_
  refine gc_seq ?_
  refine gc_seq ?_
  refine gc_region ?_
  refine gl_cons (gs_val (val_fieldAddr kfo96_1 rfl) rfl rfl rfl ?_)
  refine gl_cons (gs_val (val_load1 kag4 rfl (sees_mem (by repeat (first | exact .head _ | refine .tail _ ?_ | refine List.mem_append_right _ ?_))) rfl) rfl rfl rfl ?_)
  refine gl_nil ?_
  refine gk_seq ?_
  refine gc_true rfl ?_
  refine gc_seq ?_
  refine gc_draw (m := 8) kmixed (by kernel_rfl) ?_
  refine gq_val (val_fieldAddr kfo96_2 rfl) rfl rfl rfl ?_
  refine gq_val (val_loadA kag30 rfl (sees_mem (by repeat (first | exact .head _ | refine .tail _ ?_ | refine List.mem_append_right _ ?_))) rfl rfl) rfl rfl rfl ?_
  refine gq_pure (enters kcall50 (.cons rfl .nil)) (rhint_spec nc) rfl rfl rfl (fun _ _ => trivial) ?_
  refine gq_val (val_fieldAddr kfo96_3 rfl) rfl rfl rfl ?_
  refine gq_val (val_load1 kag3 rfl (sees_mem (by repeat (first | exact .head _ | refine .tail _ ?_ | refine List.mem_append_right _ ?_))) rfl) rfl rfl rfl ?_
  refine gq_val (val_fieldAddr kfo96_4 rfl) rfl rfl rfl ?_
  refine gq_val (val_load1 kag9 rfl (sees_mem (by repeat (first | exact .head _ | refine .tail _ ?_ | refine List.mem_append_right _ ?_))) rfl) rfl rfl rfl ?_
  refine gq_val (val_buildStr kze85 kpl85 (.cons rfl (.cons rfl (.cons rfl .nil))) rfl (.cons rfl rfl rfl (by simp) (by first | ((with_reducible refine splice_all _ _ ?_); simp; done) | (simp only [splice, stL, digL, List.take_succ_cons, List.take_zero, List.drop_succ_cons, List.drop_zero, List.length_cons, List.length_nil, Nat.reduceAdd, Nat.reduceMul, Nat.zero_add, Nat.zero_mul, List.cons_append, List.nil_append]; exact rfl)) (.cons rfl rfl rfl (by simp) (by first | ((with_reducible refine splice_all _ _ ?_); simp; done) | (simp only [splice, stL, digL, List.take_succ_cons, List.take_zero, List.drop_succ_cons, List.drop_zero, List.length_cons, List.length_nil, Nat.reduceAdd, Nat.reduceMul, Nat.zero_add, Nat.zero_mul, List.cons_append, List.nil_append]; exact rfl)) (.cons rfl rfl rfl (by simp) (by first | ((with_reducible refine splice_all _ _ ?_); simp; done) | (simp only [splice, stL, digL, List.take_succ_cons, List.take_zero, List.drop_succ_cons, List.drop_zero, List.length_cons, List.length_nil, Nat.reduceAdd, Nat.reduceMul, Nat.zero_add, Nat.zero_mul, List.cons_append, List.nil_append]; exact rfl)) .nil)))) rfl rfl rfl ?_
  refine gq_nil ?_
  refine gl_cons (gs_store ksz85 rfl rfl rfl rfl rfl rfl (by first | exact .head | exact .tail .head | exact .tail (.tail .head) | exact .tail (.tail (.tail .head)) | exact .tail (.tail (.tail (.tail .head))) | exact .tail (.tail (.tail (.tail (.tail .head))))) (by simp) (by first | ((with_reducible refine splice_all _ _ ?_); simp; done) | (simp only [splice, stL, digL, List.take_succ_cons, List.take_zero, List.drop_succ_cons, List.drop_zero, List.length_cons, List.length_nil, Nat.reduceAdd, Nat.reduceMul, Nat.zero_add, Nat.zero_mul, List.cons_append, List.nil_append]; exact rfl)) ?_)
  refine gl_nil ?_
  refine gk_seq ?_
  refine gc_ret ?_
  refine gk_seq_ret ?_
  refine gk_ret rfl (resv_cellA kag85 rfl (sees_mem (by repeat (first | exact .head _ | refine .tail _ ?_ | refine List.mem_append_right _ ?_))) rfl rfl .nil) (List.nil_sublist _) ?_
  exact ⟨rfl, rfl⟩

/-- baize/baizelaw51.made -/
theorem made_ok (dr : Bool) (nc : BitVec 64) (nb : Int) (s : ByteArray) (hk : 0 ≤ nb ∧ nb ≤ 1099511627776) (hl : s.size ≤ 32768) : Pure Try.prog 53 ([.agg (deL dr false nc nb s).toArray]).toArray (fun _ => True) (apV (hintW nc) nb (.string ⟨(sealL (keyW nc) s.data.toList).toArray⟩)) := by
  refine spec_walk (n := 34) Try.func53 rfl rfl rfl (fun w0 hpre => ?_)
  refine gc_seq ?_
  refine gc_region ?_
  refine gl_cons (gs_box rfl rfl rfl rfl (fun b1 => ?_))
  refine gl_cons (gs_alloc kze85 rfl rfl rfl (fun b2 => ?_))
  refine gl_nil ?_
  refine gk_seq ?_
  refine gc_seq ?_
  refine gc_seq ?_
  refine gc_region ?_
  refine gl_cons (gs_val (val_fieldAddr kfo96_1 rfl) rfl rfl rfl ?_)
  refine gl_cons (gs_val (val_load1 kag4 rfl (sees_mem (by repeat (first | exact .head _ | refine .tail _ ?_ | refine List.mem_append_right _ ?_))) rfl) rfl rfl rfl ?_)
  refine gl_nil ?_
  refine gk_seq ?_
  refine gc_false rfl ?_
  refine gc_skip ?_
  refine gk_seq ?_
  refine gc_seq ?_
  refine gc_region ?_
  refine gl_cons (gs_val (val_fieldAddr kfo96_2 rfl) rfl rfl rfl ?_)
  refine gl_cons (gs_val (val_loadA kag30 rfl (sees_mem (by repeat (first | exact .head _ | refine .tail _ ?_ | refine List.mem_append_right _ ?_))) rfl rfl) rfl rfl rfl ?_)
  refine gl_cons (gs_val (val_fieldAddr kfo96_3 rfl) rfl rfl rfl ?_)
  refine gl_cons (gs_val (val_load1 kag3 rfl (sees_mem (by repeat (first | exact .head _ | refine .tail _ ?_ | refine List.mem_append_right _ ?_))) rfl) rfl rfl rfl ?_)
  refine gl_cons (gs_val (val_fieldAddr kfo96_4 rfl) rfl rfl rfl ?_)
  refine gl_cons (gs_val (val_load1 kag9 rfl (sees_mem (by repeat (first | exact .head _ | refine .tail _ ?_ | refine List.mem_append_right _ ?_))) rfl) rfl rfl rfl ?_)
  refine gl_cons (gs_pure (enters kcall48 (.cons rfl (.cons rfl (.cons rfl .nil)))) (rmake_ok nc nb s hk hl) rfl rfl rfl (fun _ _ => trivial) ?_)
  refine gl_cons (gs_val (val_move rfl) rfl rfl rfl ?_)
  refine gl_cons (gs_val (val_extract rfl rfl) rfl rfl rfl ?_)
  refine gl_cons (gs_val (val_extract rfl rfl) rfl rfl rfl ?_)
  refine gl_cons (gs_alloc kze85 rfl rfl rfl (fun b3 => ?_))
  refine gl_cons (gs_store ksz85 rfl rfl rfl rfl rfl rfl (by first | exact .head | exact .tail .head | exact .tail (.tail .head) | exact .tail (.tail (.tail .head)) | exact .tail (.tail (.tail (.tail .head))) | exact .tail (.tail (.tail (.tail (.tail .head))))) (by simp) (by first | ((with_reducible refine splice_all _ _ ?_); simp; done) | (simp only [splice, stL, digL, List.take_succ_cons, List.take_zero, List.drop_succ_cons, List.drop_zero, List.length_cons, List.length_nil, Nat.reduceAdd, Nat.reduceMul, Nat.zero_add, Nat.zero_mul, List.cons_append, List.nil_append]; exact rfl)) ?_)
  refine gl_cons (gs_val (val_assign rfl) rfl rfl rfl ?_)
  refine gl_nil ?_
  refine gk_seq ?_
  refine gc_seq ?_
  refine gc_seq ?_
  refine gc_region ?_
  refine gl_cons (gs_val (val_move rfl) rfl rfl rfl ?_)
  refine gl_cons (gs_val (val_neq rfl rfl) rfl rfl rfl ?_)
  refine gl_nil ?_
  refine gk_seq ?_
  refine gc_false rfl ?_
  refine gc_skip ?_
  refine gk_seq ?_
  refine gc_seq ?_
  refine gc_region ?_
  refine gl_cons (gs_val (val_loadA kag85 rfl (sees_mem (by repeat (first | exact .head _ | refine .tail _ ?_ | refine List.mem_append_right _ ?_))) rfl rfl) rfl rfl rfl ?_)
  refine gl_cons (gs_store ksz85 rfl rfl rfl rfl rfl rfl (by first | exact .head | exact .tail .head | exact .tail (.tail .head) | exact .tail (.tail (.tail .head)) | exact .tail (.tail (.tail (.tail .head))) | exact .tail (.tail (.tail (.tail (.tail .head))))) (by simp) (by first | ((with_reducible refine splice_all _ _ ?_); simp; done) | (simp only [splice, stL, digL, List.take_succ_cons, List.take_zero, List.drop_succ_cons, List.drop_zero, List.length_cons, List.length_nil, Nat.reduceAdd, Nat.reduceMul, Nat.zero_add, Nat.zero_mul, List.cons_append, List.nil_append]; exact rfl)) ?_)
  refine gl_nil ?_
  refine gk_seq ?_
  refine gc_ret ?_
  refine gk_ret rfl (resv_cellA kag85 rfl (sees_mem (by repeat (first | exact .head _ | refine .tail _ ?_ | refine List.mem_append_right _ ?_))) rfl rfl .nil) (List.nil_sublist _) ?_
  exact ⟨rfl, rfl⟩

/-- baize/baizelaw51.made -/
theorem made_num (dr : Bool) (nc : BitVec 64) (nb : Int) (s : ByteArray) (hk : ¬ (0 ≤ nb ∧ nb ≤ 1099511627776)) : Pure Try.prog 53 ([.agg (deL dr false nc nb s).toArray]).toArray (fun _ => True) (apV (hintW nc) nb (.string ⟨#[]⟩)) := by
  refine spec_walk (n := 34) Try.func53 rfl rfl rfl (fun w0 hpre => ?_)
  refine gc_seq ?_
  refine gc_region ?_
  refine gl_cons (gs_box rfl rfl rfl rfl (fun b1 => ?_))
  refine gl_cons (gs_alloc kze85 rfl rfl rfl (fun b2 => ?_))
  refine gl_nil ?_
  refine gk_seq ?_
  refine gc_seq ?_
  refine gc_seq ?_
  refine gc_region ?_
  refine gl_cons (gs_val (val_fieldAddr kfo96_1 rfl) rfl rfl rfl ?_)
  refine gl_cons (gs_val (val_load1 kag4 rfl (sees_mem (by repeat (first | exact .head _ | refine .tail _ ?_ | refine List.mem_append_right _ ?_))) rfl) rfl rfl rfl ?_)
  refine gl_nil ?_
  refine gk_seq ?_
  refine gc_false rfl ?_
  refine gc_skip ?_
  refine gk_seq ?_
  refine gc_seq ?_
  refine gc_region ?_
  refine gl_cons (gs_val (val_fieldAddr kfo96_2 rfl) rfl rfl rfl ?_)
  refine gl_cons (gs_val (val_loadA kag30 rfl (sees_mem (by repeat (first | exact .head _ | refine .tail _ ?_ | refine List.mem_append_right _ ?_))) rfl rfl) rfl rfl rfl ?_)
  refine gl_cons (gs_val (val_fieldAddr kfo96_3 rfl) rfl rfl rfl ?_)
  refine gl_cons (gs_val (val_load1 kag3 rfl (sees_mem (by repeat (first | exact .head _ | refine .tail _ ?_ | refine List.mem_append_right _ ?_))) rfl) rfl rfl rfl ?_)
  refine gl_cons (gs_val (val_fieldAddr kfo96_4 rfl) rfl rfl rfl ?_)
  refine gl_cons (gs_val (val_load1 kag9 rfl (sees_mem (by repeat (first | exact .head _ | refine .tail _ ?_ | refine List.mem_append_right _ ?_))) rfl) rfl rfl rfl ?_)
  refine gl_cons (gs_pure (enters kcall48 (.cons rfl (.cons rfl (.cons rfl .nil)))) (rmake_no nc nb s hk) rfl rfl rfl (fun _ _ => trivial) ?_)
  refine gl_cons (gs_val (val_move rfl) rfl rfl rfl ?_)
  refine gl_cons (gs_val (val_extract rfl rfl) rfl rfl rfl ?_)
  refine gl_cons (gs_val (val_extract rfl rfl) rfl rfl rfl ?_)
  refine gl_cons (gs_alloc kze85 rfl rfl rfl (fun b3 => ?_))
  refine gl_cons (gs_store ksz85 rfl rfl rfl rfl rfl rfl (by first | exact .head | exact .tail .head | exact .tail (.tail .head) | exact .tail (.tail (.tail .head)) | exact .tail (.tail (.tail (.tail .head))) | exact .tail (.tail (.tail (.tail (.tail .head))))) (by simp) (by first | ((with_reducible refine splice_all _ _ ?_); simp; done) | (simp only [splice, stL, digL, List.take_succ_cons, List.take_zero, List.drop_succ_cons, List.drop_zero, List.length_cons, List.length_nil, Nat.reduceAdd, Nat.reduceMul, Nat.zero_add, Nat.zero_mul, List.cons_append, List.nil_append]; exact rfl)) ?_)
  refine gl_cons (gs_val (val_assign rfl) rfl rfl rfl ?_)
  refine gl_nil ?_
  refine gk_seq ?_
  refine gc_seq ?_
  refine gc_seq ?_
  refine gc_region ?_
  refine gl_cons (gs_val (val_move rfl) rfl rfl rfl ?_)
  refine gl_cons (gs_val (val_neq rfl rfl) rfl rfl rfl ?_)
  refine gl_nil ?_
  refine gk_seq ?_
  refine gc_true rfl ?_
  refine gc_draw (m := 6) kmixed (by kernel_rfl) ?_
  refine gq_val (val_fieldAddr kfo96_2 rfl) rfl rfl rfl ?_
  refine gq_val (val_loadA kag30 rfl (sees_mem (by repeat (first | exact .head _ | refine .tail _ ?_ | refine List.mem_append_right _ ?_))) rfl rfl) rfl rfl rfl ?_
  refine gq_pure (enters kcall50 (.cons rfl .nil)) (rhint_spec nc) rfl rfl rfl (fun _ _ => trivial) ?_
  refine gq_val (val_fieldAddr kfo96_3 rfl) rfl rfl rfl ?_
  refine gq_val (val_load1 kag3 rfl (sees_mem (by repeat (first | exact .head _ | refine .tail _ ?_ | refine List.mem_append_right _ ?_))) rfl) rfl rfl rfl ?_
  refine gq_val (val_buildStr kze85 kpl85 (.cons rfl (.cons rfl .nil)) rfl (.cons rfl rfl rfl (by simp) (by first | ((with_reducible refine splice_all _ _ ?_); simp; done) | (simp only [splice, stL, digL, List.take_succ_cons, List.take_zero, List.drop_succ_cons, List.drop_zero, List.length_cons, List.length_nil, Nat.reduceAdd, Nat.reduceMul, Nat.zero_add, Nat.zero_mul, List.cons_append, List.nil_append]; exact rfl)) (.cons rfl rfl rfl (by simp) (by first | ((with_reducible refine splice_all _ _ ?_); simp; done) | (simp only [splice, stL, digL, List.take_succ_cons, List.take_zero, List.drop_succ_cons, List.drop_zero, List.length_cons, List.length_nil, Nat.reduceAdd, Nat.reduceMul, Nat.zero_add, Nat.zero_mul, List.cons_append, List.nil_append]; exact rfl)) .nil))) rfl rfl rfl ?_
  refine gq_nil ?_
  refine gl_cons (gs_store ksz85 rfl rfl rfl rfl rfl rfl (by first | exact .head | exact .tail .head | exact .tail (.tail .head) | exact .tail (.tail (.tail .head)) | exact .tail (.tail (.tail (.tail .head))) | exact .tail (.tail (.tail (.tail (.tail .head))))) (by simp) (by first | ((with_reducible refine splice_all _ _ ?_); simp; done) | (simp only [splice, stL, digL, List.take_succ_cons, List.take_zero, List.drop_succ_cons, List.drop_zero, List.length_cons, List.length_nil, Nat.reduceAdd, Nat.reduceMul, Nat.zero_add, Nat.zero_mul, List.cons_append, List.nil_append]; exact rfl)) ?_)
  refine gl_nil ?_
  refine gk_seq ?_
  refine gc_seq ?_
  refine gc_region ?_
  refine gl_cons (gs_val (val_loadA kag85 rfl (sees_mem (by repeat (first | exact .head _ | refine .tail _ ?_ | refine List.mem_append_right _ ?_))) rfl rfl) rfl rfl rfl ?_)
  refine gl_cons (gs_store ksz85 rfl rfl rfl rfl rfl rfl (by first | exact .head | exact .tail .head | exact .tail (.tail .head) | exact .tail (.tail (.tail .head)) | exact .tail (.tail (.tail (.tail .head))) | exact .tail (.tail (.tail (.tail (.tail .head))))) (by simp) (by first | ((with_reducible refine splice_all _ _ ?_); simp; done) | (simp only [splice, stL, digL, List.take_succ_cons, List.take_zero, List.drop_succ_cons, List.drop_zero, List.length_cons, List.length_nil, Nat.reduceAdd, Nat.reduceMul, Nat.zero_add, Nat.zero_mul, List.cons_append, List.nil_append]; exact rfl)) ?_)
  refine gl_nil ?_
  refine gk_seq ?_
  refine gc_ret ?_
  refine gk_ret rfl (resv_cellA kag85 rfl (sees_mem (by repeat (first | exact .head _ | refine .tail _ ?_ | refine List.mem_append_right _ ?_))) rfl rfl .nil) (List.nil_sublist _) ?_
  exact ⟨rfl, rfl⟩

/-- baize/baizelaw51.made -/
theorem made_long (dr : Bool) (nc : BitVec 64) (nb : Int) (s : ByteArray) (hk : 0 ≤ nb ∧ nb ≤ 1099511627776) (hl : 32768 < s.size) : Pure Try.prog 53 ([.agg (deL dr false nc nb s).toArray]).toArray (fun _ => True) (apV (hintW nc) nb (.string ⟨#[]⟩)) := by
  refine spec_walk (n := 34) Try.func53 rfl rfl rfl (fun w0 hpre => ?_)
  refine gc_seq ?_
  refine gc_region ?_
  refine gl_cons (gs_box rfl rfl rfl rfl (fun b1 => ?_))
  refine gl_cons (gs_alloc kze85 rfl rfl rfl (fun b2 => ?_))
  refine gl_nil ?_
  refine gk_seq ?_
  refine gc_seq ?_
  refine gc_seq ?_
  refine gc_region ?_
  refine gl_cons (gs_val (val_fieldAddr kfo96_1 rfl) rfl rfl rfl ?_)
  refine gl_cons (gs_val (val_load1 kag4 rfl (sees_mem (by repeat (first | exact .head _ | refine .tail _ ?_ | refine List.mem_append_right _ ?_))) rfl) rfl rfl rfl ?_)
  refine gl_nil ?_
  refine gk_seq ?_
  refine gc_false rfl ?_
  refine gc_skip ?_
  refine gk_seq ?_
  refine gc_seq ?_
  refine gc_region ?_
  refine gl_cons (gs_val (val_fieldAddr kfo96_2 rfl) rfl rfl rfl ?_)
  refine gl_cons (gs_val (val_loadA kag30 rfl (sees_mem (by repeat (first | exact .head _ | refine .tail _ ?_ | refine List.mem_append_right _ ?_))) rfl rfl) rfl rfl rfl ?_)
  refine gl_cons (gs_val (val_fieldAddr kfo96_3 rfl) rfl rfl rfl ?_)
  refine gl_cons (gs_val (val_load1 kag3 rfl (sees_mem (by repeat (first | exact .head _ | refine .tail _ ?_ | refine List.mem_append_right _ ?_))) rfl) rfl rfl rfl ?_)
  refine gl_cons (gs_val (val_fieldAddr kfo96_4 rfl) rfl rfl rfl ?_)
  refine gl_cons (gs_val (val_load1 kag9 rfl (sees_mem (by repeat (first | exact .head _ | refine .tail _ ?_ | refine List.mem_append_right _ ?_))) rfl) rfl rfl rfl ?_)
  refine gl_cons (gs_pure (enters kcall48 (.cons rfl (.cons rfl (.cons rfl .nil)))) (rmake_long nc nb s hk hl) rfl rfl rfl (fun _ _ => trivial) ?_)
  refine gl_cons (gs_val (val_move rfl) rfl rfl rfl ?_)
  refine gl_cons (gs_val (val_extract rfl rfl) rfl rfl rfl ?_)
  refine gl_cons (gs_val (val_extract rfl rfl) rfl rfl rfl ?_)
  refine gl_cons (gs_alloc kze85 rfl rfl rfl (fun b3 => ?_))
  refine gl_cons (gs_store ksz85 rfl rfl rfl rfl rfl rfl (by first | exact .head | exact .tail .head | exact .tail (.tail .head) | exact .tail (.tail (.tail .head)) | exact .tail (.tail (.tail (.tail .head))) | exact .tail (.tail (.tail (.tail (.tail .head))))) (by simp) (by first | ((with_reducible refine splice_all _ _ ?_); simp; done) | (simp only [splice, stL, digL, List.take_succ_cons, List.take_zero, List.drop_succ_cons, List.drop_zero, List.length_cons, List.length_nil, Nat.reduceAdd, Nat.reduceMul, Nat.zero_add, Nat.zero_mul, List.cons_append, List.nil_append]; exact rfl)) ?_)
  refine gl_cons (gs_val (val_assign rfl) rfl rfl rfl ?_)
  refine gl_nil ?_
  refine gk_seq ?_
  refine gc_seq ?_
  refine gc_seq ?_
  refine gc_region ?_
  refine gl_cons (gs_val (val_move rfl) rfl rfl rfl ?_)
  refine gl_cons (gs_val (val_neq rfl rfl) rfl rfl rfl ?_)
  refine gl_nil ?_
  refine gk_seq ?_
  refine gc_true rfl ?_
  refine gc_draw (m := 6) kmixed (by kernel_rfl) ?_
  refine gq_val (val_fieldAddr kfo96_2 rfl) rfl rfl rfl ?_
  refine gq_val (val_loadA kag30 rfl (sees_mem (by repeat (first | exact .head _ | refine .tail _ ?_ | refine List.mem_append_right _ ?_))) rfl rfl) rfl rfl rfl ?_
  refine gq_pure (enters kcall50 (.cons rfl .nil)) (rhint_spec nc) rfl rfl rfl (fun _ _ => trivial) ?_
  refine gq_val (val_fieldAddr kfo96_3 rfl) rfl rfl rfl ?_
  refine gq_val (val_load1 kag3 rfl (sees_mem (by repeat (first | exact .head _ | refine .tail _ ?_ | refine List.mem_append_right _ ?_))) rfl) rfl rfl rfl ?_
  refine gq_val (val_buildStr kze85 kpl85 (.cons rfl (.cons rfl .nil)) rfl (.cons rfl rfl rfl (by simp) (by first | ((with_reducible refine splice_all _ _ ?_); simp; done) | (simp only [splice, stL, digL, List.take_succ_cons, List.take_zero, List.drop_succ_cons, List.drop_zero, List.length_cons, List.length_nil, Nat.reduceAdd, Nat.reduceMul, Nat.zero_add, Nat.zero_mul, List.cons_append, List.nil_append]; exact rfl)) (.cons rfl rfl rfl (by simp) (by first | ((with_reducible refine splice_all _ _ ?_); simp; done) | (simp only [splice, stL, digL, List.take_succ_cons, List.take_zero, List.drop_succ_cons, List.drop_zero, List.length_cons, List.length_nil, Nat.reduceAdd, Nat.reduceMul, Nat.zero_add, Nat.zero_mul, List.cons_append, List.nil_append]; exact rfl)) .nil))) rfl rfl rfl ?_
  refine gq_nil ?_
  refine gl_cons (gs_store ksz85 rfl rfl rfl rfl rfl rfl (by first | exact .head | exact .tail .head | exact .tail (.tail .head) | exact .tail (.tail (.tail .head)) | exact .tail (.tail (.tail (.tail .head))) | exact .tail (.tail (.tail (.tail (.tail .head))))) (by simp) (by first | ((with_reducible refine splice_all _ _ ?_); simp; done) | (simp only [splice, stL, digL, List.take_succ_cons, List.take_zero, List.drop_succ_cons, List.drop_zero, List.length_cons, List.length_nil, Nat.reduceAdd, Nat.reduceMul, Nat.zero_add, Nat.zero_mul, List.cons_append, List.nil_append]; exact rfl)) ?_)
  refine gl_nil ?_
  refine gk_seq ?_
  refine gc_seq ?_
  refine gc_region ?_
  refine gl_cons (gs_val (val_loadA kag85 rfl (sees_mem (by repeat (first | exact .head _ | refine .tail _ ?_ | refine List.mem_append_right _ ?_))) rfl rfl) rfl rfl rfl ?_)
  refine gl_cons (gs_store ksz85 rfl rfl rfl rfl rfl rfl (by first | exact .head | exact .tail .head | exact .tail (.tail .head) | exact .tail (.tail (.tail .head)) | exact .tail (.tail (.tail (.tail .head))) | exact .tail (.tail (.tail (.tail (.tail .head))))) (by simp) (by first | ((with_reducible refine splice_all _ _ ?_); simp; done) | (simp only [splice, stL, digL, List.take_succ_cons, List.take_zero, List.drop_succ_cons, List.drop_zero, List.length_cons, List.length_nil, Nat.reduceAdd, Nat.reduceMul, Nat.zero_add, Nat.zero_mul, List.cons_append, List.nil_append]; exact rfl)) ?_)
  refine gl_nil ?_
  refine gk_seq ?_
  refine gc_ret ?_
  refine gk_ret rfl (resv_cellA kag85 rfl (sees_mem (by repeat (first | exact .head _ | refine .tail _ ?_ | refine List.mem_append_right _ ?_))) rfl rfl .nil) (List.nil_sublist _) ?_
  exact ⟨rfl, rfl⟩

theorem made_spec (a : De) : Pure Try.prog 53 ([.agg a.L.toArray]).toArray (fun _ => True) (apV (hintW a.nc) a.nb (.string ⟨(mdB a).toArray⟩)) := by
  obtain ⟨dr, rw', nc, nb, s⟩ := a
  cases rw' with
  | true => exact made_raw dr nc nb s
  | false =>
    by_cases hk : 0 ≤ nb ∧ nb ≤ 1099511627776
    · by_cases hl : s.size ≤ 32768
      · have := made_ok dr nc nb s hk hl
        rwa [← md_ok (a := ⟨dr, false, nc, nb, s⟩) (by simp) hk hl] at this
      · have := made_long dr nc nb s hk (by omega)
        rwa [show (⟨#[]⟩ : ByteArray) = ⟨(mdB ⟨dr, false, nc, nb, s⟩).toArray⟩ by rw [md_no (a := ⟨dr, false, nc, nb, s⟩) (by simp) (fun h => hl h.2)]] at this
    · have := made_num dr nc nb s hk
      rwa [show (⟨#[]⟩ : ByteArray) = ⟨(mdB ⟨dr, false, nc, nb, s⟩).toArray⟩ by rw [md_no (a := ⟨dr, false, nc, nb, s⟩) (by simp) (fun h => hk h.1)]] at this

/-- baize/baizelaw51.Own -/
theorem ownA_spec (h : BitVec 64) (nb : Int) (st : ByteArray) : Makes Try.prog 52 ([apV h nb (.string st)]).toArray (fun _ => True) (fun s : Nat × Nat × List Value × (Nat × Nat) => st.size ≤ s.2.1) (fun s => apV h nb (.slice (some ⟨s.1, 0, none⟩) st.size s.2.1)) (fun s => [⟨s.1, .cells (st.data.toList.map U8 ++ s.2.2.1).toArray 5 s.2.2.2⟩]) := by
  refine spec_walk (n := 11) Try.func52 rfl rfl rfl (fun w0 hpre => ?_)
  refine gc_seq ?_
  refine gc_region ?_
  refine gl_cons (gs_box rfl rfl rfl rfl (fun b1 => ?_))
  refine gl_cons (gs_alloc kze70 rfl rfl rfl (fun b2 => ?_))
  refine gl_nil ?_
  refine gk_seq ?_
  refine gc_seq ?_
  refine gc_region ?_
  refine gl_cons (gs_val (val_fieldAddr kfo85_0 rfl) rfl rfl rfl ?_)
  refine gl_cons (gs_val (val_loadA kag30 rfl (sees_mem (by repeat (first | exact .head _ | refine .tail _ ?_ | refine List.mem_append_right _ ?_))) rfl rfl) rfl rfl rfl ?_)
  refine gl_cons (gs_val (val_fieldAddr kfo85_1 rfl) rfl rfl rfl ?_)
  refine gl_cons (gs_val (val_load1 kag3 rfl (sees_mem (by repeat (first | exact .head _ | refine .tail _ ?_ | refine List.mem_append_right _ ?_))) rfl) rfl rfl rfl ?_)
  refine gl_cons (gs_val (val_fieldAddr kfo85_2 rfl) rfl rfl rfl ?_)
  refine gl_cons (gs_val (val_load1 kag9 rfl (sees_mem (by repeat (first | exact .head _ | refine .tail _ ?_ | refine List.mem_append_right _ ?_))) rfl) rfl rfl rfl ?_)
  refine gl_cons (gs_strBytes kun9 kun54 kun5 rfl rfl rfl (fun b9 cb9 jb9 zb9 hcb9 => ?_))
  refine gl_cons (gs_val (val_buildStr kze70 kpl70 (.cons rfl (.cons rfl (.cons rfl .nil))) rfl (.cons rfl rfl rfl (by simp) (by first | ((with_reducible refine splice_all _ _ ?_); simp; done) | (simp only [splice, stL, digL, List.take_succ_cons, List.take_zero, List.drop_succ_cons, List.drop_zero, List.length_cons, List.length_nil, Nat.reduceAdd, Nat.reduceMul, Nat.zero_add, Nat.zero_mul, List.cons_append, List.nil_append]; exact rfl)) (.cons rfl rfl rfl (by simp) (by first | ((with_reducible refine splice_all _ _ ?_); simp; done) | (simp only [splice, stL, digL, List.take_succ_cons, List.take_zero, List.drop_succ_cons, List.drop_zero, List.length_cons, List.length_nil, Nat.reduceAdd, Nat.reduceMul, Nat.zero_add, Nat.zero_mul, List.cons_append, List.nil_append]; exact rfl)) (.cons rfl rfl rfl (by simp) (by first | ((with_reducible refine splice_all _ _ ?_); simp; done) | (simp only [splice, stL, digL, List.take_succ_cons, List.take_zero, List.drop_succ_cons, List.drop_zero, List.length_cons, List.length_nil, Nat.reduceAdd, Nat.reduceMul, Nat.zero_add, Nat.zero_mul, List.cons_append, List.nil_append]; exact rfl)) .nil)))) rfl rfl rfl ?_)
  refine gl_cons (gs_store ksz70 rfl rfl rfl rfl rfl rfl (by first | exact .head | exact .tail .head | exact .tail (.tail .head) | exact .tail (.tail (.tail .head)) | exact .tail (.tail (.tail (.tail .head))) | exact .tail (.tail (.tail (.tail (.tail .head))))) (by simp) (by first | ((with_reducible refine splice_all _ _ ?_); simp; done) | (simp only [splice, stL, digL, List.take_succ_cons, List.take_zero, List.drop_succ_cons, List.drop_zero, List.length_cons, List.length_nil, Nat.reduceAdd, Nat.reduceMul, Nat.zero_add, Nat.zero_mul, List.cons_append, List.nil_append]; exact rfl)) ?_)
  refine gl_nil ?_
  refine gk_seq ?_
  refine gc_ret ?_
  refine gk_ret rfl (resv_cellA kag70 rfl (sees_mem (by repeat (first | exact .head _ | refine .tail _ ?_ | refine List.mem_append_right _ ?_))) rfl rfl .nil) (M := [⟨b9, .cells (st.data.toList.map U8 ++ jb9).toArray 5 zb9⟩]) (List.singleton_sublist.2 (by repeat (first | exact .head _ | refine .tail _ ?_))) ?_
  exact ⟨(b9, cb9, jb9, zb9), hcb9, rfl, rfl⟩

end Go.Proofs.Ytddckbhlfeegoaa
