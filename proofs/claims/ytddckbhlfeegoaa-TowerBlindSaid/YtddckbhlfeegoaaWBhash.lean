/- The walk of functions of the program: what each computes, for every input. -/
import Derived.Test.YtddckbhlfeegoaaWBFacts
namespace Go.Proofs.Ytddckbhlfeegoaa
open Go Go.Eng
set_option linter.unusedVariables false
set_option linter.unusedSimpArgs false

/-- math/bits.RotateLeft64 -/
theorem rot_spec (x : BitVec 64) (k : Nat) (hk : k < 64) : Pure Try.prog 186 ([U64 x, I64 (k : Int)]).toArray (fun _ => True) (U64 (left x k)) := by
  refine spec_walk (n := 17) Try.func186 rfl rfl rfl (fun w0 hpre => ?_)
  refine gc_seq ?_
  refine gc_region ?_
  refine gl_cons (gs_val (val_assign rfl) rfl rfl rfl ?_)
  refine gl_nil ?_
  refine gk_seq ?_
  refine gc_seq ?_
  refine gc_region ?_
  refine gl_cons (gs_val (val_move rfl) rfl rfl rfl ?_)
  refine gl_cons (gs_val (val_conv64 rfl kis3 kun216) rfl rfl rfl ?_)
  refine gl_cons (gs_val (val_and64 (j := 63#64) rfl rfl rfl rfl) rfl rfl rfl ?_)
  refine gl_cons (gs_val (val_assign rfl) rfl rfl rfl ?_)
  refine gl_nil ?_
  refine gk_seq ?_
  refine gc_seq ?_
  refine gc_region ?_
  refine gl_cons (gs_val (val_move rfl) rfl rfl rfl ?_)
  refine gl_cons (gs_val (val_move rfl) rfl rfl rfl ?_)
  refine gl_cons (gs_val (val_shl64 rfl rfl rfl rfl) rfl rfl rfl ?_)
  refine gl_cons (gs_val (val_move rfl) rfl rfl rfl ?_)
  refine gl_cons (gs_val (val_move rfl) rfl rfl rfl ?_)
  refine gl_cons (gs_val (val_sub64 (i := 64#64) rfl rfl rfl rfl) rfl rfl rfl ?_)
  refine gl_cons (gs_val (val_shr64 rfl rfl rfl rfl) rfl rfl rfl ?_)
  refine gl_cons (gs_val (val_or64 rfl rfl rfl rfl) rfl rfl rfl ?_)
  refine gl_cons (gs_val (val_assign rfl) rfl rfl rfl ?_)
  refine gl_nil ?_
  refine gk_seq ?_
  refine gc_ret ?_
  refine gk_ret rfl (resv_tmp rfl .nil) (List.nil_sublist _) ?_
  exact ⟨congrArg U64 (rot_eq x k hk), rfl⟩

/-- (*baize/hash.state).mix -/
theorem mix_spec (b : Nat) (T : TypeId) (s : St) (m n : Nat) (hm : m < 64) (hn : n < 64) : Mods Try.prog 184 ([.pointer (some ⟨b, 0, none⟩), I64 (m : Int), I64 (n : Int)]).toArray (fun _ => True) b (.cells (stL s).toArray T (0, 0)) (.tuple #[]) (.cells (stL (s.mix m n)).toArray T (0, 0)) := by
  refine spec_walk (n := 45) Try.func184 rfl rfl rfl (fun w0 hpre => ?_)
  refine gc_seq ?_
  refine gc_draw (m := 14) kmixed (by kernel_rfl) ?_
  refine gq_val (val_move rfl) rfl rfl rfl ?_
  refine gq_val (val_move rfl) rfl rfl rfl ?_
  refine gq_val (val_nilCheck rfl) rfl rfl rfl ?_
  refine gq_val (val_indexArr (m := 3) kar218 rfl rfl rfl (by decide)) rfl rfl rfl ?_
  refine gq_val (val_load1 kag50 rfl (sees_mem (by repeat (first | exact .head _ | refine .tail _ ?_ | refine List.mem_append_right _ ?_))) rfl) rfl rfl rfl ?_
  refine gq_val (val_move rfl) rfl rfl rfl ?_
  refine gq_val (val_nilCheck rfl) rfl rfl rfl ?_
  refine gq_val (val_indexArr (m := 0) kar218 rfl rfl rfl (by decide)) rfl rfl rfl ?_
  refine gq_val (val_load1 kag50 rfl (sees_mem (by repeat (first | exact .head _ | refine .tail _ ?_ | refine List.mem_append_right _ ?_))) rfl) rfl rfl rfl ?_
  refine gq_val (val_xor64 rfl rfl rfl rfl) rfl rfl rfl ?_
  refine gq_val (val_move rfl) rfl rfl rfl ?_
  refine gq_pure (enters kcall186 (.cons rfl (.cons rfl .nil))) (rot_spec _ m hm) rfl rfl rfl (fun _ _ => trivial) ?_
  refine gq_val (val_nilCheck rfl) rfl rfl rfl ?_
  refine gq_val (val_indexArr (m := 3) kar218 rfl rfl rfl (by decide)) rfl rfl rfl ?_
  refine gq_nil ?_
  refine gl_cons (gs_store ksz50 rfl rfl rfl rfl rfl rfl (by first | exact .head | exact .tail .head | exact .tail (.tail .head) | exact .tail (.tail (.tail .head)) | exact .tail (.tail (.tail (.tail .head))) | exact .tail (.tail (.tail (.tail (.tail .head))))) (by simp) (by first | ((with_reducible refine splice_all _ _ ?_); simp; done) | (simp only [splice, stL, digL, List.take_succ_cons, List.take_zero, List.drop_succ_cons, List.drop_zero, List.length_cons, List.length_nil, Nat.reduceAdd, Nat.reduceMul, Nat.zero_add, Nat.zero_mul, List.cons_append, List.nil_append]; exact rfl)) ?_)
  refine gl_nil ?_
  refine gk_seq ?_
  refine gc_seq ?_
  refine gc_draw (m := 11) kmixed (by kernel_rfl) ?_
  refine gq_val (val_move rfl) rfl rfl rfl ?_
  refine gq_val (val_nilCheck rfl) rfl rfl rfl ?_
  refine gq_val (val_indexArr (m := 2) kar218 rfl rfl rfl (by decide)) rfl rfl rfl ?_
  refine gq_val (val_load1 kag50 rfl (sees_mem (by repeat (first | exact .head _ | refine .tail _ ?_ | refine List.mem_append_right _ ?_))) rfl) rfl rfl rfl ?_
  refine gq_val (val_move rfl) rfl rfl rfl ?_
  refine gq_val (val_nilCheck rfl) rfl rfl rfl ?_
  refine gq_val (val_indexArr (m := 3) kar218 rfl rfl rfl (by decide)) rfl rfl rfl ?_
  refine gq_val (val_load1 kag50 rfl (sees_mem (by repeat (first | exact .head _ | refine .tail _ ?_ | refine List.mem_append_right _ ?_))) rfl) rfl rfl rfl ?_
  refine gq_val (val_add64 rfl rfl rfl rfl) rfl rfl rfl ?_
  refine gq_val (val_nilCheck rfl) rfl rfl rfl ?_
  refine gq_val (val_indexArr (m := 2) kar218 rfl rfl rfl (by decide)) rfl rfl rfl ?_
  refine gq_nil ?_
  refine gl_cons (gs_store ksz50 rfl rfl rfl rfl rfl rfl (by first | exact .head | exact .tail .head | exact .tail (.tail .head) | exact .tail (.tail (.tail .head)) | exact .tail (.tail (.tail (.tail .head))) | exact .tail (.tail (.tail (.tail (.tail .head))))) (by simp) (by first | ((with_reducible refine splice_all _ _ ?_); simp; done) | (simp only [splice, stL, digL, List.take_succ_cons, List.take_zero, List.drop_succ_cons, List.drop_zero, List.length_cons, List.length_nil, Nat.reduceAdd, Nat.reduceMul, Nat.zero_add, Nat.zero_mul, List.cons_append, List.nil_append]; exact rfl)) ?_)
  refine gl_nil ?_
  refine gk_seq ?_
  refine gc_draw (m := 14) kmixed (by kernel_rfl) ?_
  refine gq_val (val_move rfl) rfl rfl rfl ?_
  refine gq_val (val_move rfl) rfl rfl rfl ?_
  refine gq_val (val_nilCheck rfl) rfl rfl rfl ?_
  refine gq_val (val_indexArr (m := 1) kar218 rfl rfl rfl (by decide)) rfl rfl rfl ?_
  refine gq_val (val_load1 kag50 rfl (sees_mem (by repeat (first | exact .head _ | refine .tail _ ?_ | refine List.mem_append_right _ ?_))) rfl) rfl rfl rfl ?_
  refine gq_val (val_move rfl) rfl rfl rfl ?_
  refine gq_val (val_nilCheck rfl) rfl rfl rfl ?_
  refine gq_val (val_indexArr (m := 2) kar218 rfl rfl rfl (by decide)) rfl rfl rfl ?_
  refine gq_val (val_load1 kag50 rfl (sees_mem (by repeat (first | exact .head _ | refine .tail _ ?_ | refine List.mem_append_right _ ?_))) rfl) rfl rfl rfl ?_
  refine gq_val (val_xor64 rfl rfl rfl rfl) rfl rfl rfl ?_
  refine gq_val (val_move rfl) rfl rfl rfl ?_
  refine gq_pure (enters kcall186 (.cons rfl (.cons rfl .nil))) (rot_spec _ n hn) rfl rfl rfl (fun _ _ => trivial) ?_
  refine gq_val (val_nilCheck rfl) rfl rfl rfl ?_
  refine gq_val (val_indexArr (m := 1) kar218 rfl rfl rfl (by decide)) rfl rfl rfl ?_
  refine gq_nil ?_
  refine gl_cons (gs_store ksz50 rfl rfl rfl rfl rfl rfl (by first | exact .head | exact .tail .head | exact .tail (.tail .head) | exact .tail (.tail (.tail .head)) | exact .tail (.tail (.tail (.tail .head))) | exact .tail (.tail (.tail (.tail (.tail .head))))) (by simp) (by first | ((with_reducible refine splice_all _ _ ?_); simp; done) | (simp only [splice, stL, digL, List.take_succ_cons, List.take_zero, List.drop_succ_cons, List.drop_zero, List.length_cons, List.length_nil, Nat.reduceAdd, Nat.reduceMul, Nat.zero_add, Nat.zero_mul, List.cons_append, List.nil_append]; exact rfl)) ?_)
  refine gl_nil ?_
  refine gk_end rfl .nil (M := [⟨b, .cells (stL (s.mix m n)).toArray T (0, 0)⟩]) (List.singleton_sublist.2 (by repeat (first | exact .head _ | refine .tail _ ?_ | refine List.mem_append_right _ ?_))) ?_
  exact ⟨rfl, rfl⟩

/-- (*baize/hash.state).stir -/
theorem stir_spec (b : Nat) (T : TypeId) (s : St) : Mods Try.prog 182 ([.pointer (some ⟨b, 0, none⟩)]).toArray (fun _ => True) b (.cells (stL s).toArray T (0, 0)) (.tuple #[]) (.cells (stL s.stir).toArray T (0, 0)) := by
  refine spec_walk (n := 38) Try.func182 rfl rfl rfl (fun w0 hpre => ?_)
  refine gc_seq ?_
  refine gc_region ?_
  refine gl_cons (gs_val (val_move rfl) rfl rfl rfl ?_)
  refine gl_nil ?_
  refine gk_seq ?_
  refine gc_block ?_
  refine gc_loop (σ := Nat) (I := fun k => k ≤ 6) (μ := fun k => 6 - k) (EI := fun k => [(0, .pointer (some ⟨b, 0, none⟩)), (3, I64 (k : Int))]) (LI := fun k => [⟨b, .cells (stL (s.rounds k)).toArray T (0, 0)⟩]) 0 ?_ ?_ ?_ ?_
  · exact Nat.zero_le _
  · exact (.cons rfl (.cons rfl .nil))
  · exact fun _ h => h
  · intro k hI
    have hI : k ≤ 6 := hI
    refine gc_seq ?_
    refine gc_region ?_
    refine gl_cons (gs_val (val_lss rfl rfl) rfl rfl rfl ?_)
    refine gl_nil ?_
    refine gk_seq ?_
    refine gc_seq ?_
    refine gc_if rfl (fun hk => ?_) (fun hk => ?_)
    · have hk : k < 6 := by omega
      refine gc_skip ?_
      refine gk_seq ?_
      refine gc_seq ?_
      refine gc_block ?_
      refine gc_seq ?_
      refine gc_region ?_
      refine gl_cons (gs_val (val_move rfl) rfl rfl rfl ?_)
      refine gl_cons (gs_val (val_assign rfl) rfl rfl rfl ?_)
      refine gl_nil ?_
      refine gk_seq ?_
      refine gc_seq ?_
      refine gc_draw (m := 16) kmixed (by kernel_rfl) ?_
      refine gq_val (val_move rfl) rfl rfl rfl ?_
      refine gq_val (val_move rfl) rfl rfl rfl ?_
      refine gq_val (val_nilCheck rfl) rfl rfl rfl ?_
      refine gq_val (val_indexArr (m := 0) kar218 rfl rfl rfl (by decide)) rfl rfl rfl ?_
      refine gq_val (val_load1 kag50 rfl (sees_mem (by repeat (first | exact .head _ | refine .tail _ ?_ | refine List.mem_append_right _ ?_))) rfl) rfl rfl rfl ?_
      refine gq_val (val_move rfl) rfl rfl rfl ?_
      refine gq_val (val_nilCheck rfl) rfl rfl rfl ?_
      refine gq_val (val_indexArr (m := 1) kar218 rfl rfl rfl (by decide)) rfl rfl rfl ?_
      refine gq_val (val_load1 kag50 rfl (sees_mem (by repeat (first | exact .head _ | refine .tail _ ?_ | refine List.mem_append_right _ ?_))) rfl) rfl rfl rfl ?_
      refine gq_val (val_add64 rfl rfl rfl rfl) rfl rfl rfl ?_
      refine gq_val (val_move rfl) rfl rfl rfl ?_
      refine gq_val (val_addI rfl rfl (by omega)) rfl rfl rfl ?_
      refine gq_val (val_conv64 rfl kis3 kun50) rfl rfl rfl ?_
      refine gq_val (val_xor64 rfl rfl rfl rfl) rfl rfl rfl ?_
      refine gq_val (val_nilCheck rfl) rfl rfl rfl ?_
      refine gq_val (val_indexArr (m := 0) kar218 rfl rfl rfl (by decide)) rfl rfl rfl ?_
      refine gq_nil ?_
      refine gl_cons (gs_store ksz50 rfl rfl rfl rfl rfl rfl (by first | exact .head | exact .tail .head | exact .tail (.tail .head) | exact .tail (.tail (.tail .head)) | exact .tail (.tail (.tail (.tail .head))) | exact .tail (.tail (.tail (.tail (.tail .head))))) (by simp) (by first | ((with_reducible refine splice_all _ _ ?_); simp; done) | (simp only [splice, stL, digL, List.take_succ_cons, List.take_zero, List.drop_succ_cons, List.drop_zero, List.length_cons, List.length_nil, Nat.reduceAdd, Nat.reduceMul, Nat.zero_add, Nat.zero_mul, List.cons_append, List.nil_append]; exact rfl)) ?_)
      refine gl_nil ?_
      refine gk_seq ?_
      refine gc_seq ?_
      refine gc_region ?_
      refine gl_cons (gs_val (val_move rfl) rfl rfl rfl ?_)
      refine gl_cons (gs_mods (enters kcall184 (.cons rfl (.cons rfl (.cons rfl .nil)))) (mix_spec _ _ ⟨_, _, _, _⟩ 32 24 (by decide) (by decide)) rfl rfl rfl (by first | exact .head | exact .tail .head | exact .tail (.tail .head) | exact .tail (.tail (.tail .head)) | exact .tail (.tail (.tail (.tail .head))) | exact .tail (.tail (.tail (.tail (.tail .head))))) (fun _ _ => trivial) ?_)
      refine gl_nil ?_
      refine gk_seq ?_
      refine gc_seq ?_
      refine gc_draw (m := 11) kmixed (by kernel_rfl) ?_
      refine gq_val (val_move rfl) rfl rfl rfl ?_
      refine gq_val (val_nilCheck rfl) rfl rfl rfl ?_
      refine gq_val (val_indexArr (m := 0) kar218 rfl rfl rfl (by decide)) rfl rfl rfl ?_
      refine gq_val (val_load1 kag50 rfl (sees_mem (by repeat (first | exact .head _ | refine .tail _ ?_ | refine List.mem_append_right _ ?_))) rfl) rfl rfl rfl ?_
      refine gq_val (val_move rfl) rfl rfl rfl ?_
      refine gq_val (val_nilCheck rfl) rfl rfl rfl ?_
      refine gq_val (val_indexArr (m := 1) kar218 rfl rfl rfl (by decide)) rfl rfl rfl ?_
      refine gq_val (val_load1 kag50 rfl (sees_mem (by repeat (first | exact .head _ | refine .tail _ ?_ | refine List.mem_append_right _ ?_))) rfl) rfl rfl rfl ?_
      refine gq_val (val_add64 rfl rfl rfl rfl) rfl rfl rfl ?_
      refine gq_val (val_nilCheck rfl) rfl rfl rfl ?_
      refine gq_val (val_indexArr (m := 0) kar218 rfl rfl rfl (by decide)) rfl rfl rfl ?_
      refine gq_nil ?_
      refine gl_cons (gs_store ksz50 rfl rfl rfl rfl rfl rfl (by first | exact .head | exact .tail .head | exact .tail (.tail .head) | exact .tail (.tail (.tail .head)) | exact .tail (.tail (.tail (.tail .head))) | exact .tail (.tail (.tail (.tail (.tail .head))))) (by simp) (by first | ((with_reducible refine splice_all _ _ ?_); simp; done) | (simp only [splice, stL, digL, List.take_succ_cons, List.take_zero, List.drop_succ_cons, List.drop_zero, List.length_cons, List.length_nil, Nat.reduceAdd, Nat.reduceMul, Nat.zero_add, Nat.zero_mul, List.cons_append, List.nil_append]; exact rfl)) ?_)
      refine gl_nil ?_
      refine gk_seq ?_
      refine gc_region ?_
      refine gl_cons (gs_val (val_move rfl) rfl rfl rfl ?_)
      refine gl_cons (gs_mods (enters kcall184 (.cons rfl (.cons rfl (.cons rfl .nil)))) (mix_spec _ _ ⟨_, _, _, _⟩ 16 63 (by decide) (by decide)) rfl rfl rfl (by first | exact .head | exact .tail .head | exact .tail (.tail .head) | exact .tail (.tail (.tail .head)) | exact .tail (.tail (.tail (.tail .head))) | exact .tail (.tail (.tail (.tail (.tail .head))))) (fun _ _ => trivial) ?_)
      refine gl_nil ?_
      refine gk_block ?_
      refine gk_seq ?_
      refine gc_region ?_
      refine gl_cons (gs_val (val_addI rfl rfl (by omega)) rfl rfl rfl ?_)
      refine gl_cons (gs_val (val_move rfl) rfl rfl rfl ?_)
      refine gl_nil ?_
      refine gk_again (k + 1) ?_ ?_ ?_ ?_
      · show k + 1 ≤ 6; omega
      · show 6 - (k + 1) < 6 - k; omega
      · exact (.cons (rfl) (.cons (rfl) .nil))
      · exact fun _ h => h
    · have e : k = 6 := by omega
      subst e
      refine gc_exit ?_
      refine gk_seq_exit ?_
      refine gk_loop_exit ?_
      refine gk_block_exit ?_
      refine gk_end rfl .nil (M := [⟨b, .cells (stL s.stir).toArray T (0, 0)⟩]) (List.singleton_sublist.2 (by repeat (first | exact .head _ | refine .tail _ ?_ | refine List.mem_append_right _ ?_))) ?_
      exact ⟨rfl, rfl⟩

/-- (*baize/hash.state).take -/
theorem take_spec (b : Nat) (T : TypeId) (s : St) (x : BitVec 64) : Mods Try.prog 167 ([.pointer (some ⟨b, 0, none⟩), U64 x]).toArray (fun _ => True) b (.cells (stL s).toArray T (0, 0)) (.tuple #[]) (.cells (stL (s.take x)).toArray T (0, 0)) := by
  refine spec_walk (n := 14) Try.func167 rfl rfl rfl (fun w0 hpre => ?_)
  refine gc_seq ?_
  refine gc_draw (m := 8) kmixed (by kernel_rfl) ?_
  refine gq_val (val_move rfl) rfl rfl rfl ?_
  refine gq_val (val_nilCheck rfl) rfl rfl rfl ?_
  refine gq_val (val_indexArr (m := 0) kar218 rfl rfl rfl (by decide)) rfl rfl rfl ?_
  refine gq_val (val_load1 kag50 rfl (sees_mem (by repeat (first | exact .head _ | refine .tail _ ?_ | refine List.mem_append_right _ ?_))) rfl) rfl rfl rfl ?_
  refine gq_val (val_move rfl) rfl rfl rfl ?_
  refine gq_val (val_xor64 rfl rfl rfl rfl) rfl rfl rfl ?_
  refine gq_val (val_nilCheck rfl) rfl rfl rfl ?_
  refine gq_val (val_indexArr (m := 0) kar218 rfl rfl rfl (by decide)) rfl rfl rfl ?_
  refine gq_nil ?_
  refine gl_cons (gs_store ksz50 rfl rfl rfl rfl rfl rfl (by first | exact .head | exact .tail .head | exact .tail (.tail .head) | exact .tail (.tail (.tail .head)) | exact .tail (.tail (.tail (.tail .head))) | exact .tail (.tail (.tail (.tail (.tail .head))))) (by simp) (by first | ((with_reducible refine splice_all _ _ ?_); simp; done) | (simp only [splice, stL, digL, List.take_succ_cons, List.take_zero, List.drop_succ_cons, List.drop_zero, List.length_cons, List.length_nil, Nat.reduceAdd, Nat.reduceMul, Nat.zero_add, Nat.zero_mul, List.cons_append, List.nil_append]; exact rfl)) ?_)
  refine gl_nil ?_
  refine gk_seq ?_
  refine gc_region ?_
  refine gl_cons (gs_val (val_move rfl) rfl rfl rfl ?_)
  refine gl_cons (gs_mods (enters kcall182 (.cons rfl .nil)) (stir_spec _ _ ⟨_, _, _, _⟩) rfl rfl rfl (by first | exact .head | exact .tail .head | exact .tail (.tail .head) | exact .tail (.tail (.tail .head)) | exact .tail (.tail (.tail (.tail .head))) | exact .tail (.tail (.tail (.tail (.tail .head))))) (fun _ _ => trivial) ?_)
  refine gl_nil ?_
  refine gk_end rfl .nil (M := [⟨b, .cells (stL (s.take x)).toArray T (0, 0)⟩]) (List.singleton_sublist.2 (by repeat (first | exact .head _ | refine .tail _ ?_ | refine List.mem_append_right _ ?_))) ?_
  exact ⟨rfl, rfl⟩

/-- (*baize/hash.state).gives -/
theorem gives_spec (b : Nat) (T : TypeId) (s : St) : Mods Try.prog 176 ([.pointer (some ⟨b, 0, none⟩)]).toArray (fun _ => True) b (.cells (stL s).toArray T (0, 0)) (U64 s.out) (.cells (stL s).toArray T (0, 0)) := by
  refine spec_walk (n := 12) Try.func176 rfl rfl rfl (fun w0 hpre => ?_)
  refine gc_seq ?_
  refine gc_region ?_
  refine gl_cons (gs_val (val_assign rfl) rfl rfl rfl ?_)
  refine gl_nil ?_
  refine gk_seq ?_
  refine gc_seq ?_
  refine gc_drawAll kmixed (by kernel_rfl) ?_
  refine gq_val (val_move rfl) rfl rfl rfl ?_
  refine gq_val (val_nilCheck rfl) rfl rfl rfl ?_
  refine gq_val (val_indexArr (m := 0) kar218 rfl rfl rfl (by decide)) rfl rfl rfl ?_
  refine gq_val (val_load1 kag50 rfl (sees_mem (by repeat (first | exact .head _ | refine .tail _ ?_ | refine List.mem_append_right _ ?_))) rfl) rfl rfl rfl ?_
  refine gq_val (val_move rfl) rfl rfl rfl ?_
  refine gq_val (val_nilCheck rfl) rfl rfl rfl ?_
  refine gq_val (val_indexArr (m := 2) kar218 rfl rfl rfl (by decide)) rfl rfl rfl ?_
  refine gq_val (val_load1 kag50 rfl (sees_mem (by repeat (first | exact .head _ | refine .tail _ ?_ | refine List.mem_append_right _ ?_))) rfl) rfl rfl rfl ?_
  refine gq_val (val_xor64 rfl rfl rfl rfl) rfl rfl rfl ?_
  refine gq_val (val_assign rfl) rfl rfl rfl ?_
  refine gq_nil ?_
  refine gl_nil ?_
  refine gk_seq ?_
  refine gc_ret ?_
  refine gk_ret rfl (resv_tmp rfl .nil) (M := [⟨b, .cells (stL s).toArray T (0, 0)⟩]) (List.singleton_sublist.2 (by repeat (first | exact .head _ | refine .tail _ ?_ | refine List.mem_append_right _ ?_))) ?_
  exact ⟨rfl, rfl⟩

/-- baize/hash.begin -/
theorem begin_spec (x : BitVec 64) : Pure Try.prog 155 ([U64 x]).toArray (fun _ => True) (stV (St.begin x)) := by
  refine spec_walk (n := 5) Try.func155 rfl rfl rfl (fun w0 hpre => ?_)
  refine gc_seq ?_
  refine gc_region ?_
  refine gl_cons (gs_alloc kze218 rfl rfl rfl (fun b2 => ?_))
  refine gl_nil ?_
  refine gk_seq ?_
  refine gc_seq ?_
  refine gc_region ?_
  refine gl_cons (gs_val (val_move rfl) rfl rfl rfl ?_)
  refine gl_cons (gs_val (val_buildArr kze218 kar218 (.cons rfl (.cons rfl (.cons rfl (.cons rfl .nil)))) rfl (.cons rfl rfl rfl (by simp) (by first | ((with_reducible refine splice_all _ _ ?_); simp; done) | (simp only [splice, stL, digL, List.take_succ_cons, List.take_zero, List.drop_succ_cons, List.drop_zero, List.length_cons, List.length_nil, Nat.reduceAdd, Nat.reduceMul, Nat.zero_add, Nat.zero_mul, List.cons_append, List.nil_append]; exact rfl)) (.cons rfl rfl rfl (by simp) (by first | ((with_reducible refine splice_all _ _ ?_); simp; done) | (simp only [splice, stL, digL, List.take_succ_cons, List.take_zero, List.drop_succ_cons, List.drop_zero, List.length_cons, List.length_nil, Nat.reduceAdd, Nat.reduceMul, Nat.zero_add, Nat.zero_mul, List.cons_append, List.nil_append]; exact rfl)) (.cons rfl rfl rfl (by simp) (by first | ((with_reducible refine splice_all _ _ ?_); simp; done) | (simp only [splice, stL, digL, List.take_succ_cons, List.take_zero, List.drop_succ_cons, List.drop_zero, List.length_cons, List.length_nil, Nat.reduceAdd, Nat.reduceMul, Nat.zero_add, Nat.zero_mul, List.cons_append, List.nil_append]; exact rfl)) (.cons rfl rfl rfl (by simp) (by first | ((with_reducible refine splice_all _ _ ?_); simp; done) | (simp only [splice, stL, digL, List.take_succ_cons, List.take_zero, List.drop_succ_cons, List.drop_zero, List.length_cons, List.length_nil, Nat.reduceAdd, Nat.reduceMul, Nat.zero_add, Nat.zero_mul, List.cons_append, List.nil_append]; exact rfl)) .nil))))) rfl rfl rfl ?_)
  refine gl_cons (gs_store ksz218 rfl rfl rfl rfl rfl rfl (by first | exact .head | exact .tail .head | exact .tail (.tail .head) | exact .tail (.tail (.tail .head)) | exact .tail (.tail (.tail (.tail .head))) | exact .tail (.tail (.tail (.tail (.tail .head))))) (by simp) (by first | ((with_reducible refine splice_all _ _ ?_); simp; done) | (simp only [splice, stL, digL, List.take_succ_cons, List.take_zero, List.drop_succ_cons, List.drop_zero, List.length_cons, List.length_nil, Nat.reduceAdd, Nat.reduceMul, Nat.zero_add, Nat.zero_mul, List.cons_append, List.nil_append]; exact rfl)) ?_)
  refine gl_nil ?_
  refine gk_seq ?_
  refine gc_ret ?_
  refine gk_ret rfl (resv_cellA kag218 rfl (sees_mem (by repeat (first | exact .head _ | refine .tail _ ?_ | refine List.mem_append_right _ ?_))) rfl rfl .nil) (List.nil_sublist _) ?_
  exact ⟨rfl, rfl⟩

/-- baize/hash.FromNum -/
theorem fromNum_spec (x : BitVec 64) : Pure Try.prog 175 ([U64 x]).toArray (fun _ => True) (Dig x) := by
  refine spec_walk (n := 17) Try.func175 rfl rfl rfl (fun w0 hpre => ?_)
  refine gc_seq ?_
  refine gc_region ?_
  refine gl_cons (gs_alloc kze31 rfl rfl rfl (fun b2 => ?_))
  refine gl_nil ?_
  refine gk_seq ?_
  refine gc_seq ?_
  refine gc_region ?_
  refine gl_cons (gs_alloc kze31 rfl rfl rfl (fun b3 => ?_))
  refine gl_nil ?_
  refine gk_seq ?_
  refine gc_seq ?_
  refine gc_seq ?_
  refine gc_region ?_
  refine gl_cons (gs_val (val_move rfl) rfl rfl rfl ?_)
  refine gl_nil ?_
  refine gk_seq ?_
  refine gc_block ?_
  refine gc_rounds 8 ?_
  refine gc_seq ?_
  refine gc_region ?_
  refine gl_cons (gs_val (val_lss rfl rfl) rfl rfl rfl ?_)
  refine gl_nil ?_
  refine gk_seq ?_
  refine gc_seq ?_
  refine gc_true rfl ?_
  refine gc_skip ?_
  refine gk_seq ?_
  refine gc_seq ?_
  refine gc_block ?_
  refine gc_seq ?_
  refine gc_region ?_
  refine gl_cons (gs_val (val_move rfl) rfl rfl rfl ?_)
  refine gl_cons (gs_val (val_assign rfl) rfl rfl rfl ?_)
  refine gl_nil ?_
  refine gk_seq ?_
  refine gc_region ?_
  refine gl_cons (gs_val (val_move rfl) rfl rfl rfl ?_)
  refine gl_cons (gs_val (val_move rfl) rfl rfl rfl ?_)
  refine gl_cons (gs_val (val_move rfl) rfl rfl rfl ?_)
  refine gl_cons (gs_val (val_mulC (r := 0) rfl rfl (by decide)) rfl rfl rfl ?_)
  refine gl_cons (gs_val (val_shr64 (s := 0) rfl rfl rfl rfl) rfl rfl rfl ?_)
  refine gl_cons (gs_val (val_conv64_8 rfl kis50 kun5 rfl) rfl rfl rfl ?_)
  refine gl_cons (gs_val (val_indexArr (m := 0) kar31 rfl rfl rfl (by decide)) rfl rfl rfl ?_)
  refine gl_cons (gs_store ksz5 rfl rfl rfl rfl rfl rfl (by first | exact .head | exact .tail .head | exact .tail (.tail .head) | exact .tail (.tail (.tail .head)) | exact .tail (.tail (.tail (.tail .head))) | exact .tail (.tail (.tail (.tail (.tail .head))))) (by simp) (by first | ((with_reducible refine splice_all _ _ ?_); simp; done) | (simp only [splice, stL, digL, List.take_succ_cons, List.take_zero, List.drop_succ_cons, List.drop_zero, List.length_cons, List.length_nil, Nat.reduceAdd, Nat.reduceMul, Nat.zero_add, Nat.zero_mul, List.cons_append, List.nil_append]; exact rfl)) ?_)
  refine gl_nil ?_
  refine gk_block ?_
  refine gk_seq ?_
  refine gc_region ?_
  refine gl_cons (gs_val (val_addC (r := 1) rfl rfl (by decide)) rfl rfl rfl ?_)
  refine gl_cons (gs_val (val_move rfl) rfl rfl rfl ?_)
  refine gl_nil ?_
  refine gk_rounds ?_
  refine gc_seq ?_
  refine gc_region ?_
  refine gl_cons (gs_val (val_lss rfl rfl) rfl rfl rfl ?_)
  refine gl_nil ?_
  refine gk_seq ?_
  refine gc_seq ?_
  refine gc_true rfl ?_
  refine gc_skip ?_
  refine gk_seq ?_
  refine gc_seq ?_
  refine gc_block ?_
  refine gc_seq ?_
  refine gc_region ?_
  refine gl_cons (gs_val (val_move rfl) rfl rfl rfl ?_)
  refine gl_cons (gs_val (val_assign rfl) rfl rfl rfl ?_)
  refine gl_nil ?_
  refine gk_seq ?_
  refine gc_region ?_
  refine gl_cons (gs_val (val_move rfl) rfl rfl rfl ?_)
  refine gl_cons (gs_val (val_move rfl) rfl rfl rfl ?_)
  refine gl_cons (gs_val (val_move rfl) rfl rfl rfl ?_)
  refine gl_cons (gs_val (val_mulC (r := 8) rfl rfl (by decide)) rfl rfl rfl ?_)
  refine gl_cons (gs_val (val_shr64 (s := 8) rfl rfl rfl rfl) rfl rfl rfl ?_)
  refine gl_cons (gs_val (val_conv64_8 rfl kis50 kun5 rfl) rfl rfl rfl ?_)
  refine gl_cons (gs_val (val_indexArr (m := 1) kar31 rfl rfl rfl (by decide)) rfl rfl rfl ?_)
  refine gl_cons (gs_store ksz5 rfl rfl rfl rfl rfl rfl (by first | exact .head | exact .tail .head | exact .tail (.tail .head) | exact .tail (.tail (.tail .head)) | exact .tail (.tail (.tail (.tail .head))) | exact .tail (.tail (.tail (.tail (.tail .head))))) (by simp) (by first | ((with_reducible refine splice_all _ _ ?_); simp; done) | (simp only [splice, stL, digL, List.take_succ_cons, List.take_zero, List.drop_succ_cons, List.drop_zero, List.length_cons, List.length_nil, Nat.reduceAdd, Nat.reduceMul, Nat.zero_add, Nat.zero_mul, List.cons_append, List.nil_append]; exact rfl)) ?_)
  refine gl_nil ?_
  refine gk_block ?_
  refine gk_seq ?_
  refine gc_region ?_
  refine gl_cons (gs_val (val_addC (r := 2) rfl rfl (by decide)) rfl rfl rfl ?_)
  refine gl_cons (gs_val (val_move rfl) rfl rfl rfl ?_)
  refine gl_nil ?_
  refine gk_rounds ?_
  refine gc_seq ?_
  refine gc_region ?_
  refine gl_cons (gs_val (val_lss rfl rfl) rfl rfl rfl ?_)
  refine gl_nil ?_
  refine gk_seq ?_
  refine gc_seq ?_
  refine gc_true rfl ?_
  refine gc_skip ?_
  refine gk_seq ?_
  refine gc_seq ?_
  refine gc_block ?_
  refine gc_seq ?_
  refine gc_region ?_
  refine gl_cons (gs_val (val_move rfl) rfl rfl rfl ?_)
  refine gl_cons (gs_val (val_assign rfl) rfl rfl rfl ?_)
  refine gl_nil ?_
  refine gk_seq ?_
  refine gc_region ?_
  refine gl_cons (gs_val (val_move rfl) rfl rfl rfl ?_)
  refine gl_cons (gs_val (val_move rfl) rfl rfl rfl ?_)
  refine gl_cons (gs_val (val_move rfl) rfl rfl rfl ?_)
  refine gl_cons (gs_val (val_mulC (r := 16) rfl rfl (by decide)) rfl rfl rfl ?_)
  refine gl_cons (gs_val (val_shr64 (s := 16) rfl rfl rfl rfl) rfl rfl rfl ?_)
  refine gl_cons (gs_val (val_conv64_8 rfl kis50 kun5 rfl) rfl rfl rfl ?_)
  refine gl_cons (gs_val (val_indexArr (m := 2) kar31 rfl rfl rfl (by decide)) rfl rfl rfl ?_)
  refine gl_cons (gs_store ksz5 rfl rfl rfl rfl rfl rfl (by first | exact .head | exact .tail .head | exact .tail (.tail .head) | exact .tail (.tail (.tail .head)) | exact .tail (.tail (.tail (.tail .head))) | exact .tail (.tail (.tail (.tail (.tail .head))))) (by simp) (by first | ((with_reducible refine splice_all _ _ ?_); simp; done) | (simp only [splice, stL, digL, List.take_succ_cons, List.take_zero, List.drop_succ_cons, List.drop_zero, List.length_cons, List.length_nil, Nat.reduceAdd, Nat.reduceMul, Nat.zero_add, Nat.zero_mul, List.cons_append, List.nil_append]; exact rfl)) ?_)
  refine gl_nil ?_
  refine gk_block ?_
  refine gk_seq ?_
  refine gc_region ?_
  refine gl_cons (gs_val (val_addC (r := 3) rfl rfl (by decide)) rfl rfl rfl ?_)
  refine gl_cons (gs_val (val_move rfl) rfl rfl rfl ?_)
  refine gl_nil ?_
  refine gk_rounds ?_
  refine gc_seq ?_
  refine gc_region ?_
  refine gl_cons (gs_val (val_lss rfl rfl) rfl rfl rfl ?_)
  refine gl_nil ?_
  refine gk_seq ?_
  refine gc_seq ?_
  refine gc_true rfl ?_
  refine gc_skip ?_
  refine gk_seq ?_
  refine gc_seq ?_
  refine gc_block ?_
  refine gc_seq ?_
  refine gc_region ?_
  refine gl_cons (gs_val (val_move rfl) rfl rfl rfl ?_)
  refine gl_cons (gs_val (val_assign rfl) rfl rfl rfl ?_)
  refine gl_nil ?_
  refine gk_seq ?_
  refine gc_region ?_
  refine gl_cons (gs_val (val_move rfl) rfl rfl rfl ?_)
  refine gl_cons (gs_val (val_move rfl) rfl rfl rfl ?_)
  refine gl_cons (gs_val (val_move rfl) rfl rfl rfl ?_)
  refine gl_cons (gs_val (val_mulC (r := 24) rfl rfl (by decide)) rfl rfl rfl ?_)
  refine gl_cons (gs_val (val_shr64 (s := 24) rfl rfl rfl rfl) rfl rfl rfl ?_)
  refine gl_cons (gs_val (val_conv64_8 rfl kis50 kun5 rfl) rfl rfl rfl ?_)
  refine gl_cons (gs_val (val_indexArr (m := 3) kar31 rfl rfl rfl (by decide)) rfl rfl rfl ?_)
  refine gl_cons (gs_store ksz5 rfl rfl rfl rfl rfl rfl (by first | exact .head | exact .tail .head | exact .tail (.tail .head) | exact .tail (.tail (.tail .head)) | exact .tail (.tail (.tail (.tail .head))) | exact .tail (.tail (.tail (.tail (.tail .head))))) (by simp) (by first | ((with_reducible refine splice_all _ _ ?_); simp; done) | (simp only [splice, stL, digL, List.take_succ_cons, List.take_zero, List.drop_succ_cons, List.drop_zero, List.length_cons, List.length_nil, Nat.reduceAdd, Nat.reduceMul, Nat.zero_add, Nat.zero_mul, List.cons_append, List.nil_append]; exact rfl)) ?_)
  refine gl_nil ?_
  refine gk_block ?_
  refine gk_seq ?_
  refine gc_region ?_
  refine gl_cons (gs_val (val_addC (r := 4) rfl rfl (by decide)) rfl rfl rfl ?_)
  refine gl_cons (gs_val (val_move rfl) rfl rfl rfl ?_)
  refine gl_nil ?_
  refine gk_rounds ?_
  refine gc_seq ?_
  refine gc_region ?_
  refine gl_cons (gs_val (val_lss rfl rfl) rfl rfl rfl ?_)
  refine gl_nil ?_
  refine gk_seq ?_
  refine gc_seq ?_
  refine gc_true rfl ?_
  refine gc_skip ?_
  refine gk_seq ?_
  refine gc_seq ?_
  refine gc_block ?_
  refine gc_seq ?_
  refine gc_region ?_
  refine gl_cons (gs_val (val_move rfl) rfl rfl rfl ?_)
  refine gl_cons (gs_val (val_assign rfl) rfl rfl rfl ?_)
  refine gl_nil ?_
  refine gk_seq ?_
  refine gc_region ?_
  refine gl_cons (gs_val (val_move rfl) rfl rfl rfl ?_)
  refine gl_cons (gs_val (val_move rfl) rfl rfl rfl ?_)
  refine gl_cons (gs_val (val_move rfl) rfl rfl rfl ?_)
  refine gl_cons (gs_val (val_mulC (r := 32) rfl rfl (by decide)) rfl rfl rfl ?_)
  refine gl_cons (gs_val (val_shr64 (s := 32) rfl rfl rfl rfl) rfl rfl rfl ?_)
  refine gl_cons (gs_val (val_conv64_8 rfl kis50 kun5 rfl) rfl rfl rfl ?_)
  refine gl_cons (gs_val (val_indexArr (m := 4) kar31 rfl rfl rfl (by decide)) rfl rfl rfl ?_)
  refine gl_cons (gs_store ksz5 rfl rfl rfl rfl rfl rfl (by first | exact .head | exact .tail .head | exact .tail (.tail .head) | exact .tail (.tail (.tail .head)) | exact .tail (.tail (.tail (.tail .head))) | exact .tail (.tail (.tail (.tail (.tail .head))))) (by simp) (by first | ((with_reducible refine splice_all _ _ ?_); simp; done) | (simp only [splice, stL, digL, List.take_succ_cons, List.take_zero, List.drop_succ_cons, List.drop_zero, List.length_cons, List.length_nil, Nat.reduceAdd, Nat.reduceMul, Nat.zero_add, Nat.zero_mul, List.cons_append, List.nil_append]; exact rfl)) ?_)
  refine gl_nil ?_
  refine gk_block ?_
  refine gk_seq ?_
  refine gc_region ?_
  refine gl_cons (gs_val (val_addC (r := 5) rfl rfl (by decide)) rfl rfl rfl ?_)
  refine gl_cons (gs_val (val_move rfl) rfl rfl rfl ?_)
  refine gl_nil ?_
  refine gk_rounds ?_
  refine gc_seq ?_
  refine gc_region ?_
  refine gl_cons (gs_val (val_lss rfl rfl) rfl rfl rfl ?_)
  refine gl_nil ?_
  refine gk_seq ?_
  refine gc_seq ?_
  refine gc_true rfl ?_
  refine gc_skip ?_
  refine gk_seq ?_
  refine gc_seq ?_
  refine gc_block ?_
  refine gc_seq ?_
  refine gc_region ?_
  refine gl_cons (gs_val (val_move rfl) rfl rfl rfl ?_)
  refine gl_cons (gs_val (val_assign rfl) rfl rfl rfl ?_)
  refine gl_nil ?_
  refine gk_seq ?_
  refine gc_region ?_
  refine gl_cons (gs_val (val_move rfl) rfl rfl rfl ?_)
  refine gl_cons (gs_val (val_move rfl) rfl rfl rfl ?_)
  refine gl_cons (gs_val (val_move rfl) rfl rfl rfl ?_)
  refine gl_cons (gs_val (val_mulC (r := 40) rfl rfl (by decide)) rfl rfl rfl ?_)
  refine gl_cons (gs_val (val_shr64 (s := 40) rfl rfl rfl rfl) rfl rfl rfl ?_)
  refine gl_cons (gs_val (val_conv64_8 rfl kis50 kun5 rfl) rfl rfl rfl ?_)
  refine gl_cons (gs_val (val_indexArr (m := 5) kar31 rfl rfl rfl (by decide)) rfl rfl rfl ?_)
  refine gl_cons (gs_store ksz5 rfl rfl rfl rfl rfl rfl (by first | exact .head | exact .tail .head | exact .tail (.tail .head) | exact .tail (.tail (.tail .head)) | exact .tail (.tail (.tail (.tail .head))) | exact .tail (.tail (.tail (.tail (.tail .head))))) (by simp) (by first | ((with_reducible refine splice_all _ _ ?_); simp; done) | (simp only [splice, stL, digL, List.take_succ_cons, List.take_zero, List.drop_succ_cons, List.drop_zero, List.length_cons, List.length_nil, Nat.reduceAdd, Nat.reduceMul, Nat.zero_add, Nat.zero_mul, List.cons_append, List.nil_append]; exact rfl)) ?_)
  refine gl_nil ?_
  refine gk_block ?_
  refine gk_seq ?_
  refine gc_region ?_
  refine gl_cons (gs_val (val_addC (r := 6) rfl rfl (by decide)) rfl rfl rfl ?_)
  refine gl_cons (gs_val (val_move rfl) rfl rfl rfl ?_)
  refine gl_nil ?_
  refine gk_rounds ?_
  refine gc_seq ?_
  refine gc_region ?_
  refine gl_cons (gs_val (val_lss rfl rfl) rfl rfl rfl ?_)
  refine gl_nil ?_
  refine gk_seq ?_
  refine gc_seq ?_
  refine gc_true rfl ?_
  refine gc_skip ?_
  refine gk_seq ?_
  refine gc_seq ?_
  refine gc_block ?_
  refine gc_seq ?_
  refine gc_region ?_
  refine gl_cons (gs_val (val_move rfl) rfl rfl rfl ?_)
  refine gl_cons (gs_val (val_assign rfl) rfl rfl rfl ?_)
  refine gl_nil ?_
  refine gk_seq ?_
  refine gc_region ?_
  refine gl_cons (gs_val (val_move rfl) rfl rfl rfl ?_)
  refine gl_cons (gs_val (val_move rfl) rfl rfl rfl ?_)
  refine gl_cons (gs_val (val_move rfl) rfl rfl rfl ?_)
  refine gl_cons (gs_val (val_mulC (r := 48) rfl rfl (by decide)) rfl rfl rfl ?_)
  refine gl_cons (gs_val (val_shr64 (s := 48) rfl rfl rfl rfl) rfl rfl rfl ?_)
  refine gl_cons (gs_val (val_conv64_8 rfl kis50 kun5 rfl) rfl rfl rfl ?_)
  refine gl_cons (gs_val (val_indexArr (m := 6) kar31 rfl rfl rfl (by decide)) rfl rfl rfl ?_)
  refine gl_cons (gs_store ksz5 rfl rfl rfl rfl rfl rfl (by first | exact .head | exact .tail .head | exact .tail (.tail .head) | exact .tail (.tail (.tail .head)) | exact .tail (.tail (.tail (.tail .head))) | exact .tail (.tail (.tail (.tail (.tail .head))))) (by simp) (by first | ((with_reducible refine splice_all _ _ ?_); simp; done) | (simp only [splice, stL, digL, List.take_succ_cons, List.take_zero, List.drop_succ_cons, List.drop_zero, List.length_cons, List.length_nil, Nat.reduceAdd, Nat.reduceMul, Nat.zero_add, Nat.zero_mul, List.cons_append, List.nil_append]; exact rfl)) ?_)
  refine gl_nil ?_
  refine gk_block ?_
  refine gk_seq ?_
  refine gc_region ?_
  refine gl_cons (gs_val (val_addC (r := 7) rfl rfl (by decide)) rfl rfl rfl ?_)
  refine gl_cons (gs_val (val_move rfl) rfl rfl rfl ?_)
  refine gl_nil ?_
  refine gk_rounds ?_
  refine gc_seq ?_
  refine gc_region ?_
  refine gl_cons (gs_val (val_lss rfl rfl) rfl rfl rfl ?_)
  refine gl_nil ?_
  refine gk_seq ?_
  refine gc_seq ?_
  refine gc_true rfl ?_
  refine gc_skip ?_
  refine gk_seq ?_
  refine gc_seq ?_
  refine gc_block ?_
  refine gc_seq ?_
  refine gc_region ?_
  refine gl_cons (gs_val (val_move rfl) rfl rfl rfl ?_)
  refine gl_cons (gs_val (val_assign rfl) rfl rfl rfl ?_)
  refine gl_nil ?_
  refine gk_seq ?_
  refine gc_region ?_
  refine gl_cons (gs_val (val_move rfl) rfl rfl rfl ?_)
  refine gl_cons (gs_val (val_move rfl) rfl rfl rfl ?_)
  refine gl_cons (gs_val (val_move rfl) rfl rfl rfl ?_)
  refine gl_cons (gs_val (val_mulC (r := 56) rfl rfl (by decide)) rfl rfl rfl ?_)
  refine gl_cons (gs_val (val_shr64 (s := 56) rfl rfl rfl rfl) rfl rfl rfl ?_)
  refine gl_cons (gs_val (val_conv64_8 rfl kis50 kun5 rfl) rfl rfl rfl ?_)
  refine gl_cons (gs_val (val_indexArr (m := 7) kar31 rfl rfl rfl (by decide)) rfl rfl rfl ?_)
  refine gl_cons (gs_store ksz5 rfl rfl rfl rfl rfl rfl (by first | exact .head | exact .tail .head | exact .tail (.tail .head) | exact .tail (.tail (.tail .head)) | exact .tail (.tail (.tail (.tail .head))) | exact .tail (.tail (.tail (.tail (.tail .head))))) (by simp) (by first | ((with_reducible refine splice_all _ _ ?_); simp; done) | (simp only [splice, stL, digL, List.take_succ_cons, List.take_zero, List.drop_succ_cons, List.drop_zero, List.length_cons, List.length_nil, Nat.reduceAdd, Nat.reduceMul, Nat.zero_add, Nat.zero_mul, List.cons_append, List.nil_append]; exact rfl)) ?_)
  refine gl_nil ?_
  refine gk_block ?_
  refine gk_seq ?_
  refine gc_region ?_
  refine gl_cons (gs_val (val_addC (r := 8) rfl rfl (by decide)) rfl rfl rfl ?_)
  refine gl_cons (gs_val (val_move rfl) rfl rfl rfl ?_)
  refine gl_nil ?_
  refine gk_rounds ?_
  refine gc_seq ?_
  refine gc_region ?_
  refine gl_cons (gs_val (val_lss rfl rfl) rfl rfl rfl ?_)
  refine gl_nil ?_
  refine gk_seq ?_
  refine gc_seq ?_
  refine gc_false rfl ?_
  refine gc_exit ?_
  refine gk_seq_exit ?_
  refine gk_rounds_exit ?_
  refine gk_block_exit ?_
  refine gk_seq ?_
  refine gc_seq ?_
  refine gc_region ?_
  refine gl_cons (gs_val (val_loadA kag31 rfl (sees_mem (by repeat (first | exact .head _ | refine .tail _ ?_ | refine List.mem_append_right _ ?_))) rfl rfl) rfl rfl rfl ?_)
  refine gl_cons (gs_store ksz31 rfl rfl rfl rfl rfl rfl (by first | exact .head | exact .tail .head | exact .tail (.tail .head) | exact .tail (.tail (.tail .head)) | exact .tail (.tail (.tail (.tail .head))) | exact .tail (.tail (.tail (.tail (.tail .head))))) (by simp) (by first | ((with_reducible refine splice_all _ _ ?_); simp; done) | (simp only [splice, stL, digL, List.take_succ_cons, List.take_zero, List.drop_succ_cons, List.drop_zero, List.length_cons, List.length_nil, Nat.reduceAdd, Nat.reduceMul, Nat.zero_add, Nat.zero_mul, List.cons_append, List.nil_append]; exact rfl)) ?_)
  refine gl_nil ?_
  refine gk_seq ?_
  refine gc_ret ?_
  refine gk_ret rfl (resv_cellA kag31 rfl (sees_mem (by repeat (first | exact .head _ | refine .tail _ ?_ | refine List.mem_append_right _ ?_))) rfl rfl .nil) (List.nil_sublist _) ?_
  exact ⟨rfl, rfl⟩

/-- (*baize/hash.state).digest -/
theorem digest_spec (b : Nat) (T : TypeId) (s : St) : Mods Try.prog 157 ([.pointer (some ⟨b, 0, none⟩)]).toArray (fun _ => True) b (.cells (stL s).toArray T (0, 0)) (Dig s.out) (.cells (stL s).toArray T (0, 0)) := by
  refine spec_walk (n := 6) Try.func157 rfl rfl rfl (fun w0 hpre => ?_)
  refine gc_seq ?_
  refine gc_region ?_
  refine gl_cons (gs_alloc kze31 rfl rfl rfl (fun b2 => ?_))
  refine gl_nil ?_
  refine gk_seq ?_
  refine gc_seq ?_
  refine gc_region ?_
  refine gl_cons (gs_val (val_move rfl) rfl rfl rfl ?_)
  refine gl_cons (gs_mods (enters kcall176 (.cons rfl .nil)) (gives_spec _ _ s) rfl rfl rfl (by first | exact .head | exact .tail .head | exact .tail (.tail .head) | exact .tail (.tail (.tail .head)) | exact .tail (.tail (.tail (.tail .head))) | exact .tail (.tail (.tail (.tail (.tail .head))))) (fun _ _ => trivial) ?_)
  refine gl_cons (gs_pure (enters kcall175 (.cons rfl .nil)) (fromNum_spec _) rfl rfl rfl (fun _ _ => trivial) ?_)
  refine gl_cons (gs_store ksz31 rfl rfl rfl rfl rfl rfl (by first | exact .head | exact .tail .head | exact .tail (.tail .head) | exact .tail (.tail (.tail .head)) | exact .tail (.tail (.tail (.tail .head))) | exact .tail (.tail (.tail (.tail (.tail .head))))) (by simp) (by first | ((with_reducible refine splice_all _ _ ?_); simp; done) | (simp only [splice, stL, digL, List.take_succ_cons, List.take_zero, List.drop_succ_cons, List.drop_zero, List.length_cons, List.length_nil, Nat.reduceAdd, Nat.reduceMul, Nat.zero_add, Nat.zero_mul, List.cons_append, List.nil_append]; exact rfl)) ?_)
  refine gl_nil ?_
  refine gk_seq ?_
  refine gc_ret ?_
  refine gk_ret rfl (resv_cellA kag31 rfl (sees_mem (by repeat (first | exact .head _ | refine .tail _ ?_ | refine List.mem_append_right _ ?_))) rfl rfl .nil) (M := [⟨b, .cells (stL s).toArray T (0, 0)⟩]) (List.singleton_sublist.2 (by repeat (first | exact .head _ | refine .tail _ ?_ | refine List.mem_append_right _ ?_))) ?_
  exact ⟨rfl, rfl⟩

/-- baize/hash.number -/
theorem number_spec (ba : Option Addr) (n cap : Nat) (l : List UInt8) (hn : l.length = n) (hl : n ≤ 281474976710656) : Pure Try.prog 174 ([.slice ba n cap]).toArray (fun w => Row w [] ba (l.map U8)) (U64 (numL l)) := by
  subst hn
  refine spec_walk (n := 22) Try.func174 rfl rfl rfl (fun w0 hpre => ?_)
  refine gc_seq ?_
  refine gc_region ?_
  refine gl_cons (gs_val (val_assign rfl) rfl rfl rfl ?_)
  refine gl_nil ?_
  refine gk_seq ?_
  refine gc_seq ?_
  refine gc_region ?_
  refine gl_cons (gs_val (val_assign rfl) rfl rfl rfl ?_)
  refine gl_nil ?_
  refine gk_seq ?_
  refine gc_seq ?_
  refine gc_seq ?_
  refine gc_region ?_
  refine gl_cons (gs_val (val_move rfl) rfl rfl rfl ?_)
  refine gl_cons (gs_val (val_lenSli ksl54 rfl) rfl rfl rfl ?_)
  refine gl_cons (gs_val (val_move rfl) rfl rfl rfl ?_)
  refine gl_nil ?_
  refine gk_seq ?_
  refine gc_block ?_
  refine gc_loop (σ := Nat) (I := fun k => k ≤ l.length) (μ := fun k => l.length - k) (EI := fun k => [(3, U64 (numL (l.take k))), (6, .slice ba l.length cap), (7, I64 (l.length : Int)), (8, I64 (k : Int))]) (LI := fun k => []) 0 ?_ ?_ ?_ ?_
  · exact Nat.zero_le _
  · exact (.cons rfl (.cons rfl (.cons rfl (.cons rfl .nil))))
  · exact fun _ h => h.sub (List.nil_sublist _)
  · intro k hI
    have hI : k ≤ l.length := hI
    refine gc_seq ?_
    refine gc_region ?_
    refine gl_cons (gs_val (val_lss rfl rfl) rfl rfl rfl ?_)
    refine gl_nil ?_
    refine gk_seq ?_
    refine gc_seq ?_
    refine gc_if rfl (fun hk => ?_) (fun hk => ?_)
    · have hk : k < l.length := by omega
      refine gc_skip ?_
      refine gk_seq ?_
      refine gc_seq ?_
      refine gc_block ?_
      refine gc_seq ?_
      refine gc_region ?_
      refine gl_cons (gs_val (val_move rfl) rfl rfl rfl ?_)
      refine gl_cons (gs_val (val_indexSli ksl54 rfl rfl rfl (by omega) (sees_row hpre) (by (try simp only [List.length_map, Nat.mul_one, dig_len, inc_len]); omega)) rfl rfl rfl ?_)
      refine gl_cons (gs_val (val_load1 kag5 rfl ((sees_row hpre).elem hk) rfl) rfl rfl rfl ?_)
      refine gl_cons (gs_val (val_assign rfl) rfl rfl rfl ?_)
      refine gl_cons (gs_val (val_assign rfl) rfl rfl rfl ?_)
      refine gl_nil ?_
      refine gk_seq ?_
      refine gc_region ?_
      refine gl_cons (gs_val (val_move rfl) rfl rfl rfl ?_)
      refine gl_cons (gs_val (val_move rfl) rfl rfl rfl ?_)
      refine gl_cons (gs_val (val_conv8_64 rfl kis5 kun50 rfl) rfl rfl rfl ?_)
      refine gl_cons (gs_val (val_move rfl) rfl rfl rfl ?_)
      refine gl_cons (gs_val (val_mulI rfl rfl (by omega)) rfl rfl rfl ?_)
      refine gl_cons (gs_val (val_shl64 (s := 8 * k) rfl rfl rfl (by omega)) rfl rfl rfl ?_)
      refine gl_cons (gs_val (val_or64 rfl rfl rfl rfl) rfl rfl rfl ?_)
      refine gl_cons (gs_val (val_assign rfl) rfl rfl rfl ?_)
      refine gl_nil ?_
      refine gk_block ?_
      refine gk_seq ?_
      refine gc_region ?_
      refine gl_cons (gs_val (val_addI rfl rfl (by omega)) rfl rfl rfl ?_)
      refine gl_cons (gs_val (val_move rfl) rfl rfl rfl ?_)
      refine gl_nil ?_
      refine gk_again (k + 1) ?_ ?_ ?_ ?_
      · show k + 1 ≤ l.length; omega
      · show l.length - (k + 1) < l.length - k; omega
      · exact (.cons (congrArg (fun x => some (U64 x)) (numL_step l k hk)) (.cons (rfl) (.cons (rfl) (.cons (rfl) .nil))))
      · exact fun _ h => h.sub (List.nil_sublist _)
    · have e : k = l.length := by omega
      subst e
      refine gc_exit ?_
      refine gk_seq_exit ?_
      refine gk_loop_exit ?_
      refine gk_block_exit ?_
      refine gk_seq ?_
      refine gc_seq ?_
      refine gc_region ?_
      refine gl_cons (gs_val (val_move rfl) rfl rfl rfl ?_)
      refine gl_cons (gs_val (val_assign rfl) rfl rfl rfl ?_)
      refine gl_nil ?_
      refine gk_seq ?_
      refine gc_ret ?_
      refine gk_ret rfl (resv_tmp rfl .nil) (List.nil_sublist _) ?_
      exact ⟨by rw [List.take_length]; rfl, rfl⟩

/-- baize/hash.Num -/
theorem num_spec (x : BitVec 64) : Pure Try.prog 168 ([Dig x]).toArray (fun _ => True) (U64 x) := by
  refine spec_walk (n := 5) Try.func168 rfl rfl rfl (fun w0 hpre => ?_)
  refine gc_seq ?_
  refine gc_region ?_
  refine gl_cons (gs_box rfl rfl rfl rfl (fun b1 => ?_))
  refine gl_cons (gs_val (val_assign rfl) rfl rfl rfl ?_)
  refine gl_nil ?_
  refine gk_seq ?_
  refine gc_seq ?_
  refine gc_region ?_
  refine gl_cons (gs_val (val_sliceArr kar31 rfl) rfl rfl rfl ?_)
  refine gl_cons (gs_pure (enters kcall174 (.cons rfl .nil)) (number_spec _ _ _ (digB x) rfl (by decide)) rfl rfl rfl (row_of_sees (sees_all (by repeat (first | exact .head _ | refine .tail _ ?_ | refine List.mem_append_right _ ?_)))) ?_)
  refine gl_cons (gs_val (val_assign rfl) rfl rfl rfl ?_)
  refine gl_nil ?_
  refine gk_seq ?_
  refine gc_ret ?_
  refine gk_ret rfl (resv_tmp rfl .nil) (List.nil_sublist _) ?_
  exact ⟨congrArg U64 (numL_dig x), rfl⟩

/-- (*baize/hash.state).bytes -/
theorem bytes_spec (b : Nat) (T : TypeId) (s : St) (ba : Option Addr) (n cap : Nat) (l : List UInt8) (hn : l.length = n) (hl : n ≤ 281474976710656) (hc : n ≤ cap) : Mods Try.prog 156 ([.pointer (some ⟨b, 0, none⟩), .slice ba n cap]).toArray (fun w => Row w [b] ba (l.map U8)) b (.cells (stL s).toArray T (0, 0)) (.tuple #[]) (.cells (stL (s.bytes l)).toArray T (0, 0)) := by
  subst hn
  refine spec_walk (n := 30) Try.func156 rfl rfl rfl (fun w0 hpre => ?_)
  refine gc_seq ?_
  refine gc_region ?_
  refine gl_cons (gs_val (val_move rfl) rfl rfl rfl ?_)
  refine gl_cons (gs_val (val_lenSli ksl54 rfl) rfl rfl rfl ?_)
  refine gl_cons (gs_val (val_assign rfl) rfl rfl rfl ?_)
  refine gl_nil ?_
  refine gk_seq ?_
  refine gc_seq ?_
  refine gc_block ?_
  refine gc_loop (σ := Nat × Option Addr × Nat) (I := fun s => 8 * s.1 ≤ l.length ∧ Row w0 [b] s.2.1 ((l.drop (8 * s.1)).map U8) ∧ l.length - 8 * s.1 ≤ s.2.2) (μ := fun s => l.length - 8 * s.1) (EI := fun v => [(0, .pointer (some ⟨b, 0, none⟩)), (1, .slice v.2.1 (l.length - 8 * v.1) v.2.2), (4, I64 (l.length : Int))]) (LI := fun v => [⟨b, .cells (stL (s.absorb l v.1)).toArray T (0, 0)⟩]) (0, ba, cap) ?_ ?_ ?_ ?_
  · exact ⟨Nat.zero_le _, hpre, hc⟩
  · exact (.cons rfl (.cons rfl (.cons rfl .nil)))
  · exact fun _ h => h
  · intro ⟨k, ba', cap'⟩ ⟨h8, hrow, hcap⟩
    dsimp only
    have h8 : 8 * k ≤ l.length := h8
    have hrow : Row w0 [b] ba' ((l.drop (8 * k)).map U8) := hrow
    have hcap : l.length - 8 * k ≤ cap' := hcap
    refine gc_seq ?_
    refine gc_seq ?_
    refine gc_region ?_
    refine gl_cons (gs_val (val_move rfl) rfl rfl rfl ?_)
    refine gl_cons (gs_val (val_lenSli ksl54 rfl) rfl rfl rfl ?_)
    refine gl_cons (gs_val (val_geq rfl rfl) rfl rfl rfl ?_)
    refine gl_nil ?_
    refine gk_seq ?_
    refine gc_if rfl (fun hk => ?_) (fun hk => ?_)
    · have hk : 8 * k + 8 ≤ l.length := by omega
      refine gc_skip ?_
      refine gk_seq ?_
      refine gc_block ?_
      refine gc_seq ?_
      refine gc_region ?_
      refine gl_cons (gs_val (val_move rfl) rfl rfl rfl ?_)
      refine gl_cons (gs_val (val_move rfl) rfl rfl rfl ?_)
      refine gl_cons (gs_val (val_sliceH (h := 8) ksl54 rfl rfl rfl (by omega)) rfl rfl rfl ?_)
      refine gl_cons (gs_pure (enters kcall174 (.cons rfl .nil)) (number_spec _ _ _ ((l.drop (8 * k)).take 8) (by simp; omega) (by decide)) rfl rfl rfl (row_of_sees (((sees_row hrow).take 8).cast (by simp))) ?_)
      refine gl_cons (gs_mods (enters kcall167 (.cons rfl (.cons rfl .nil))) (take_spec _ _ ⟨_, _, _, _⟩ _) rfl rfl rfl (by first | exact .head | exact .tail .head | exact .tail (.tail .head) | exact .tail (.tail (.tail .head)) | exact .tail (.tail (.tail (.tail .head))) | exact .tail (.tail (.tail (.tail (.tail .head))))) (fun _ _ => trivial) ?_)
      refine gl_nil ?_
      refine gk_seq ?_
      refine gc_region ?_
      refine gl_cons (gs_val (val_move rfl) rfl rfl rfl ?_)
      refine gl_cons (gs_val (val_sliceL (l := 8) ksl54 rfl rfl rfl (by omega)) rfl rfl rfl ?_)
      refine gl_cons (gs_val (val_assign rfl) rfl rfl rfl ?_)
      refine gl_nil ?_
      refine gk_block ?_
      have hlen : ((l.drop (8 * k)).take 8).length = 8 := by simp; omega
      refine gk_again (k + 1, sl ba' cap' 8 1, cap' - 8) ?_ ?_ ?_ ?_
      · exact ⟨by show 8 * (k + 1) ≤ l.length; omega, by have := hrow.sl (cap := cap') (l := 8) (size := 1) (by simp; omega); rw [Nat.mul_one, ← List.map_drop, List.drop_drop] at this; exact this, by show l.length - 8 * (k + 1) ≤ cap' - 8; omega⟩
      · show l.length - 8 * (k + 1) < l.length - 8 * k; omega
      · exact (.cons (rfl) (.cons (congrArg (fun x => some (Value.slice (sl ba' cap' 8 1) x (cap' - 8))) (by show l.length - 8 * k - 8 = l.length - 8 * (k + 1); omega)) (.cons (rfl) .nil)))
      · exact fun _ h => h
    · have hk2 : k = l.length / 8 := by omega
      have hlen2 : (l.drop (8 * k)).length = l.length - 8 * k := by simp
      refine gc_exit ?_
      refine gk_seq_exit ?_
      refine gk_loop_exit ?_
      refine gk_block_exit ?_
      refine gk_seq ?_
      refine gc_seq ?_
      refine gc_draw (m := 8) kmixed (by kernel_rfl) ?_
      refine gq_val (val_move rfl) rfl rfl rfl ?_
      refine gq_val (val_move rfl) rfl rfl rfl ?_
      refine gq_pure (enters kcall174 (.cons rfl .nil)) (number_spec _ _ _ (l.drop (8 * k)) (by simp) (by omega)) rfl rfl rfl (row_of_sees (sees_row hrow)) ?_
      refine gq_val (val_move rfl) rfl rfl rfl ?_
      refine gq_val (val_lenSli ksl54 rfl) rfl rfl rfl ?_
      refine gq_val (val_mulI rfl rfl (by omega)) rfl rfl rfl ?_
      refine gq_val (val_shl64 (i := 1#64) (s := 8 * (l.length - 8 * k)) rfl rfl rfl (by omega)) rfl rfl rfl ?_
      refine gq_val (val_or64 rfl rfl rfl rfl) rfl rfl rfl ?_
      refine gq_nil ?_
      refine gl_cons (gs_mods (enters kcall167 (.cons rfl (.cons rfl .nil))) (take_spec _ _ ⟨_, _, _, _⟩ _) rfl rfl rfl (by first | exact .head | exact .tail .head | exact .tail (.tail .head) | exact .tail (.tail (.tail .head)) | exact .tail (.tail (.tail (.tail .head))) | exact .tail (.tail (.tail (.tail (.tail .head))))) (fun _ _ => trivial) ?_)
      refine gl_nil ?_
      refine gk_seq ?_
      refine gc_region ?_
      refine gl_cons (gs_val (val_move rfl) rfl rfl rfl ?_)
      refine gl_cons (gs_val (val_move rfl) rfl rfl rfl ?_)
      refine gl_cons (gs_val (val_conv64 rfl kis3 kun50) rfl rfl rfl ?_)
      refine gl_cons (gs_mods (enters kcall167 (.cons rfl (.cons rfl .nil))) (take_spec _ _ ⟨_, _, _, _⟩ _) rfl rfl rfl (by first | exact .head | exact .tail .head | exact .tail (.tail .head) | exact .tail (.tail (.tail .head)) | exact .tail (.tail (.tail (.tail .head))) | exact .tail (.tail (.tail (.tail (.tail .head))))) (fun _ _ => trivial) ?_)
      refine gl_nil ?_
      rw [show numL (l.drop (8 * k)) ||| 1#64 <<< (8 * (l.length - 8 * k)) = numL (l.drop (8 * k) ++ [1]) from by rw [← hlen2]; exact numL_one _]
      subst hk2
      refine gk_end rfl .nil (M := [⟨b, .cells (stL (s.bytes l)).toArray T (0, 0)⟩]) (List.singleton_sublist.2 (by repeat (first | exact .head _ | refine .tail _ ?_ | refine List.mem_append_right _ ?_))) ?_
      exact ⟨rfl, rfl⟩

/-- baize/hash.Two -/
theorem two_spec (x y : BitVec 64) : Pure Try.prog 178 ([Dig x, Dig y]).toArray (fun _ => True) (Dig (hTwo x y)) := by
  refine spec_walk (n := 14) Try.func178 rfl rfl rfl (fun w0 hpre => ?_)
  refine gc_seq ?_
  refine gc_region ?_
  refine gl_cons (gs_box rfl rfl rfl rfl (fun b2 => ?_))
  refine gl_cons (gs_box rfl rfl rfl rfl (fun b3 => ?_))
  refine gl_cons (gs_alloc kze31 rfl rfl rfl (fun b4 => ?_))
  refine gl_nil ?_
  refine gk_seq ?_
  refine gc_seq ?_
  refine gc_region ?_
  refine gl_cons (gs_pure (enters kcall155 (.cons rfl .nil)) (begin_spec 3#64) rfl rfl rfl (fun _ _ => trivial) ?_)
  refine gl_cons (gs_alloc kze218 rfl rfl rfl (fun b5 => ?_))
  refine gl_cons (gs_store ksz218 rfl rfl rfl rfl rfl rfl (by first | exact .head | exact .tail .head | exact .tail (.tail .head) | exact .tail (.tail (.tail .head)) | exact .tail (.tail (.tail (.tail .head))) | exact .tail (.tail (.tail (.tail (.tail .head))))) (by simp) (by first | ((with_reducible refine splice_all _ _ ?_); simp; done) | (simp only [splice, stL, digL, List.take_succ_cons, List.take_zero, List.drop_succ_cons, List.drop_zero, List.length_cons, List.length_nil, Nat.reduceAdd, Nat.reduceMul, Nat.zero_add, Nat.zero_mul, List.cons_append, List.nil_append]; exact rfl)) ?_)
  refine gl_nil ?_
  refine gk_seq ?_
  refine gc_seq ?_
  refine gc_region ?_
  refine gl_cons (gs_val (val_loadA kag31 rfl (sees_mem (by repeat (first | exact .head _ | refine .tail _ ?_ | refine List.mem_append_right _ ?_))) rfl rfl) rfl rfl rfl ?_)
  refine gl_cons (gs_pure (enters kcall168 (.cons rfl .nil)) (num_spec x) rfl rfl rfl (fun _ _ => trivial) ?_)
  refine gl_cons (gs_mods (enters kcall167 (.cons rfl (.cons rfl .nil))) (take_spec _ _ ⟨_, _, _, _⟩ _) rfl rfl rfl (by first | exact .head | exact .tail .head | exact .tail (.tail .head) | exact .tail (.tail (.tail .head)) | exact .tail (.tail (.tail (.tail .head))) | exact .tail (.tail (.tail (.tail (.tail .head))))) (fun _ _ => trivial) ?_)
  refine gl_nil ?_
  refine gk_seq ?_
  refine gc_seq ?_
  refine gc_region ?_
  refine gl_cons (gs_val (val_loadA kag31 rfl (sees_mem (by repeat (first | exact .head _ | refine .tail _ ?_ | refine List.mem_append_right _ ?_))) rfl rfl) rfl rfl rfl ?_)
  refine gl_cons (gs_pure (enters kcall168 (.cons rfl .nil)) (num_spec y) rfl rfl rfl (fun _ _ => trivial) ?_)
  refine gl_cons (gs_mods (enters kcall167 (.cons rfl (.cons rfl .nil))) (take_spec _ _ ⟨_, _, _, _⟩ _) rfl rfl rfl (by first | exact .head | exact .tail .head | exact .tail (.tail .head) | exact .tail (.tail (.tail .head)) | exact .tail (.tail (.tail (.tail .head))) | exact .tail (.tail (.tail (.tail (.tail .head))))) (fun _ _ => trivial) ?_)
  refine gl_nil ?_
  refine gk_seq ?_
  refine gc_seq ?_
  refine gc_region ?_
  refine gl_cons (gs_mods (enters kcall157 (.cons rfl .nil)) (digest_spec _ _ ⟨_, _, _, _⟩) rfl rfl rfl (by first | exact .head | exact .tail .head | exact .tail (.tail .head) | exact .tail (.tail (.tail .head)) | exact .tail (.tail (.tail (.tail .head))) | exact .tail (.tail (.tail (.tail (.tail .head))))) (fun _ _ => trivial) ?_)
  refine gl_cons (gs_store ksz31 rfl rfl rfl rfl rfl rfl (by first | exact .head | exact .tail .head | exact .tail (.tail .head) | exact .tail (.tail (.tail .head)) | exact .tail (.tail (.tail (.tail .head))) | exact .tail (.tail (.tail (.tail (.tail .head))))) (by simp) (by first | ((with_reducible refine splice_all _ _ ?_); simp; done) | (simp only [splice, stL, digL, List.take_succ_cons, List.take_zero, List.drop_succ_cons, List.drop_zero, List.length_cons, List.length_nil, Nat.reduceAdd, Nat.reduceMul, Nat.zero_add, Nat.zero_mul, List.cons_append, List.nil_append]; exact rfl)) ?_)
  refine gl_nil ?_
  refine gk_seq ?_
  refine gc_ret ?_
  refine gk_ret rfl (resv_cellA kag31 rfl (sees_mem (by repeat (first | exact .head _ | refine .tail _ ?_ | refine List.mem_append_right _ ?_))) rfl rfl .nil) (List.nil_sublist _) ?_
  exact ⟨rfl, rfl⟩

/-- baize/hash.Of -/
theorem of_spec (ba : Option Addr) (n cap : Nat) (l : List UInt8) (hn : l.length = n) (hl : n ≤ 281474976710656) (hc : n ≤ cap) : Pure Try.prog 114 ([.slice ba n cap]).toArray (fun w => Row w [] ba (l.map U8)) (Dig (hOf l)) := by
  refine spec_walk (n := 8) Try.func114 rfl rfl rfl (fun w0 hpre => ?_)
  refine gc_seq ?_
  refine gc_region ?_
  refine gl_cons (gs_alloc kze31 rfl rfl rfl (fun b2 => ?_))
  refine gl_nil ?_
  refine gk_seq ?_
  refine gc_seq ?_
  refine gc_region ?_
  refine gl_cons (gs_pure (enters kcall155 (.cons rfl .nil)) (begin_spec 1#64) rfl rfl rfl (fun _ _ => trivial) ?_)
  refine gl_cons (gs_alloc kze218 rfl rfl rfl (fun b3 => ?_))
  refine gl_cons (gs_store ksz218 rfl rfl rfl rfl rfl rfl (by first | exact .head | exact .tail .head | exact .tail (.tail .head) | exact .tail (.tail (.tail .head)) | exact .tail (.tail (.tail (.tail .head))) | exact .tail (.tail (.tail (.tail (.tail .head))))) (by simp) (by first | ((with_reducible refine splice_all _ _ ?_); simp; done) | (simp only [splice, stL, digL, List.take_succ_cons, List.take_zero, List.drop_succ_cons, List.drop_zero, List.length_cons, List.length_nil, Nat.reduceAdd, Nat.reduceMul, Nat.zero_add, Nat.zero_mul, List.cons_append, List.nil_append]; exact rfl)) ?_)
  refine gl_nil ?_
  refine gk_seq ?_
  refine gc_seq ?_
  refine gc_region ?_
  refine gl_cons (gs_val (val_move rfl) rfl rfl rfl ?_)
  refine gl_cons (gs_mods (enters kcall156 (.cons rfl (.cons rfl .nil))) (bytes_spec _ _ ⟨_, _, _, _⟩ _ _ _ l hn hl hc) rfl rfl rfl (by first | exact .head | exact .tail .head | exact .tail (.tail .head) | exact .tail (.tail (.tail .head)) | exact .tail (.tail (.tail (.tail .head))) | exact .tail (.tail (.tail (.tail (.tail .head))))) (row_of_row hpre (by repeat (first | exact .head _ | refine .tail _ ?_ | refine List.mem_append_right _ ?_))) ?_)
  refine gl_nil ?_
  refine gk_seq ?_
  refine gc_seq ?_
  refine gc_region ?_
  refine gl_cons (gs_mods (enters kcall157 (.cons rfl .nil)) (digest_spec _ _ ⟨_, _, _, _⟩) rfl rfl rfl (by first | exact .head | exact .tail .head | exact .tail (.tail .head) | exact .tail (.tail (.tail .head)) | exact .tail (.tail (.tail (.tail .head))) | exact .tail (.tail (.tail (.tail (.tail .head))))) (fun _ _ => trivial) ?_)
  refine gl_cons (gs_store ksz31 rfl rfl rfl rfl rfl rfl (by first | exact .head | exact .tail .head | exact .tail (.tail .head) | exact .tail (.tail (.tail .head)) | exact .tail (.tail (.tail (.tail .head))) | exact .tail (.tail (.tail (.tail (.tail .head))))) (by simp) (by first | ((with_reducible refine splice_all _ _ ?_); simp; done) | (simp only [splice, stL, digL, List.take_succ_cons, List.take_zero, List.drop_succ_cons, List.drop_zero, List.length_cons, List.length_nil, Nat.reduceAdd, Nat.reduceMul, Nat.zero_add, Nat.zero_mul, List.cons_append, List.nil_append]; exact rfl)) ?_)
  refine gl_nil ?_
  refine gk_seq ?_
  refine gc_ret ?_
  refine gk_ret rfl (resv_cellA kag31 rfl (sees_mem (by repeat (first | exact .head _ | refine .tail _ ?_ | refine List.mem_append_right _ ?_))) rfl rfl .nil) (List.nil_sublist _) ?_
  exact ⟨rfl, rfl⟩

/-- baize/hash.Word -/
theorem word_spec (x : BitVec 64) (t : ByteArray) (ht : t.size ≤ 281474976710656) : Pure Try.prog 130 ([Dig x, .string t]).toArray (fun _ => True) (Dig (hWord x t.data.toList)) := by
  refine spec_walk (n := 14) Try.func130 rfl rfl rfl (fun w0 hpre => ?_)
  refine gc_seq ?_
  refine gc_region ?_
  refine gl_cons (gs_box rfl rfl rfl rfl (fun b2 => ?_))
  refine gl_cons (gs_alloc kze31 rfl rfl rfl (fun b4 => ?_))
  refine gl_nil ?_
  refine gk_seq ?_
  refine gc_seq ?_
  refine gc_region ?_
  refine gl_cons (gs_pure (enters kcall155 (.cons rfl .nil)) (begin_spec 4#64) rfl rfl rfl (fun _ _ => trivial) ?_)
  refine gl_cons (gs_alloc kze218 rfl rfl rfl (fun b5 => ?_))
  refine gl_cons (gs_store ksz218 rfl rfl rfl rfl rfl rfl (by first | exact .head | exact .tail .head | exact .tail (.tail .head) | exact .tail (.tail (.tail .head)) | exact .tail (.tail (.tail (.tail .head))) | exact .tail (.tail (.tail (.tail (.tail .head))))) (by simp) (by first | ((with_reducible refine splice_all _ _ ?_); simp; done) | (simp only [splice, stL, digL, List.take_succ_cons, List.take_zero, List.drop_succ_cons, List.drop_zero, List.length_cons, List.length_nil, Nat.reduceAdd, Nat.reduceMul, Nat.zero_add, Nat.zero_mul, List.cons_append, List.nil_append]; exact rfl)) ?_)
  refine gl_nil ?_
  refine gk_seq ?_
  refine gc_seq ?_
  refine gc_region ?_
  refine gl_cons (gs_val (val_loadA kag31 rfl (sees_mem (by repeat (first | exact .head _ | refine .tail _ ?_ | refine List.mem_append_right _ ?_))) rfl rfl) rfl rfl rfl ?_)
  refine gl_cons (gs_pure (enters kcall168 (.cons rfl .nil)) (num_spec x) rfl rfl rfl (fun _ _ => trivial) ?_)
  refine gl_cons (gs_mods (enters kcall167 (.cons rfl (.cons rfl .nil))) (take_spec _ _ ⟨_, _, _, _⟩ _) rfl rfl rfl (by first | exact .head | exact .tail .head | exact .tail (.tail .head) | exact .tail (.tail (.tail .head)) | exact .tail (.tail (.tail (.tail .head))) | exact .tail (.tail (.tail (.tail (.tail .head))))) (fun _ _ => trivial) ?_)
  refine gl_nil ?_
  refine gk_seq ?_
  refine gc_seq ?_
  refine gc_region ?_
  refine gl_cons (gs_val (val_move rfl) rfl rfl rfl ?_)
  refine gl_cons (gs_strBytes kun9 kun54 kun5 rfl rfl rfl (fun b11 cb11 jb11 zb11 hcb11 => ?_))
  refine gl_cons (gs_mods (enters kcall156 (.cons rfl (.cons rfl .nil))) (bytes_spec _ _ ⟨_, _, _, _⟩ _ _ _ t.data.toList (by simp) ht (hcb11)) rfl rfl rfl (by first | exact .head | exact .tail .head | exact .tail (.tail .head) | exact .tail (.tail (.tail .head)) | exact .tail (.tail (.tail (.tail .head))) | exact .tail (.tail (.tail (.tail (.tail .head))))) (row_of_own (by first | exact .one (by repeat (first | exact .head _ | refine .tail _ ?_ | refine List.mem_append_right _ ?_)) | exact .two (by repeat (first | exact .head _ | refine .tail _ ?_ | refine List.mem_append_right _ ?_)) | exact .tail (.one (by repeat (first | exact .head _ | refine .tail _ ?_ | refine List.mem_append_right _ ?_))) | exact .tail (.two (by repeat (first | exact .head _ | refine .tail _ ?_ | refine List.mem_append_right _ ?_))) | exact .tail (.tail (.one (by repeat (first | exact .head _ | refine .tail _ ?_ | refine List.mem_append_right _ ?_)))) | exact .tail (.tail (.two (by repeat (first | exact .head _ | refine .tail _ ?_ | refine List.mem_append_right _ ?_)))) | exact .tail (.tail (.tail (.one (by repeat (first | exact .head _ | refine .tail _ ?_ | refine List.mem_append_right _ ?_))))) | exact .tail (.tail (.tail (.two (by repeat (first | exact .head _ | refine .tail _ ?_ | refine List.mem_append_right _ ?_))))))) ?_)
  refine gl_nil ?_
  refine gk_seq ?_
  refine gc_seq ?_
  refine gc_region ?_
  refine gl_cons (gs_mods (enters kcall157 (.cons rfl .nil)) (digest_spec _ _ ⟨_, _, _, _⟩) rfl rfl rfl (by first | exact .head | exact .tail .head | exact .tail (.tail .head) | exact .tail (.tail (.tail .head)) | exact .tail (.tail (.tail (.tail .head))) | exact .tail (.tail (.tail (.tail (.tail .head))))) (fun _ _ => trivial) ?_)
  refine gl_cons (gs_store ksz31 rfl rfl rfl rfl rfl rfl (by first | exact .head | exact .tail .head | exact .tail (.tail .head) | exact .tail (.tail (.tail .head)) | exact .tail (.tail (.tail (.tail .head))) | exact .tail (.tail (.tail (.tail (.tail .head))))) (by simp) (by first | ((with_reducible refine splice_all _ _ ?_); simp; done) | (simp only [splice, stL, digL, List.take_succ_cons, List.take_zero, List.drop_succ_cons, List.drop_zero, List.length_cons, List.length_nil, Nat.reduceAdd, Nat.reduceMul, Nat.zero_add, Nat.zero_mul, List.cons_append, List.nil_append]; exact rfl)) ?_)
  refine gl_nil ?_
  refine gk_seq ?_
  refine gc_ret ?_
  refine gk_ret rfl (resv_cellA kag31 rfl (sees_mem (by repeat (first | exact .head _ | refine .tail _ ?_ | refine List.mem_append_right _ ?_))) rfl rfl .nil) (List.nil_sublist _) ?_
  exact ⟨rfl, rfl⟩

/-- baize/hash.Stream -/
theorem stream_mid (x : BitVec 64) (m : Nat) (h1 : 1 ≤ m) (h2 : m ≤ 1048576) : Makes Try.prog 179 ([Dig x, I64 (m : Int)]).toArray (fun _ => True) (fun s : Option Addr × Nat × List Ent => Own 5 1 s.1 m s.2.1 ((hStream x m).map U8) s.2.2) (fun s => .slice s.1 m s.2.1) (fun s => s.2.2) := by
  refine spec_walk (n := 31) Try.func179 rfl rfl rfl (fun w0 hpre => ?_)
  refine gc_seq ?_
  refine gc_region ?_
  refine gl_cons (gs_box rfl rfl rfl rfl (fun b2 => ?_))
  refine gl_cons (gs_val (val_assign rfl) rfl rfl rfl ?_)
  refine gl_nil ?_
  refine gk_seq ?_
  refine gc_seq ?_
  refine gc_seq ?_
  refine gc_region ?_
  refine gl_cons (gs_val (val_move rfl) rfl rfl rfl ?_)
  refine gl_cons (gs_val (val_no (val_lss rfl rfl) (by omega)) rfl rfl rfl ?_)
  refine gl_cons (gs_val (val_move rfl) rfl rfl rfl ?_)
  refine gl_cons (gs_val (val_move rfl) rfl rfl rfl ?_)
  refine gl_cons (gs_val (val_no (val_gtr rfl rfl) (by omega)) rfl rfl rfl ?_)
  refine gl_cons (gs_val (val_pick_f rfl rfl) rfl rfl rfl ?_)
  refine gl_nil ?_
  refine gk_seq ?_
  refine gc_false rfl ?_
  refine gc_skip ?_
  refine gk_seq ?_
  refine gc_seq ?_
  refine gc_region ?_
  refine gl_cons (gs_pure (enters kcall155 (.cons rfl .nil)) (begin_spec 6#64) rfl rfl rfl (fun _ _ => trivial) ?_)
  refine gl_cons (gs_alloc kze218 rfl rfl rfl (fun b5 => ?_))
  refine gl_cons (gs_store ksz218 rfl rfl rfl rfl rfl rfl (by first | exact .head | exact .tail .head | exact .tail (.tail .head) | exact .tail (.tail (.tail .head)) | exact .tail (.tail (.tail (.tail .head))) | exact .tail (.tail (.tail (.tail (.tail .head))))) (by simp) (by first | ((with_reducible refine splice_all _ _ ?_); simp; done) | (simp only [splice, stL, digL, List.take_succ_cons, List.take_zero, List.drop_succ_cons, List.drop_zero, List.length_cons, List.length_nil, Nat.reduceAdd, Nat.reduceMul, Nat.zero_add, Nat.zero_mul, List.cons_append, List.nil_append]; exact rfl)) ?_)
  refine gl_nil ?_
  refine gk_seq ?_
  refine gc_seq ?_
  refine gc_region ?_
  refine gl_cons (gs_val (val_loadA kag31 rfl (sees_mem (by repeat (first | exact .head _ | refine .tail _ ?_ | refine List.mem_append_right _ ?_))) rfl rfl) rfl rfl rfl ?_)
  refine gl_cons (gs_pure (enters kcall168 (.cons rfl .nil)) (num_spec _) rfl rfl rfl (fun _ _ => trivial) ?_)
  refine gl_cons (gs_mods (enters kcall167 (.cons rfl (.cons rfl .nil))) (take_spec _ _ ⟨_, _, _, _⟩ _) rfl rfl rfl (by first | exact .head | exact .tail .head | exact .tail (.tail .head) | exact .tail (.tail (.tail .head)) | exact .tail (.tail (.tail (.tail .head))) | exact .tail (.tail (.tail (.tail (.tail .head))))) (fun _ _ => trivial) ?_)
  refine gl_nil ?_
  refine gk_seq ?_
  refine gc_seq ?_
  refine gc_region ?_
  refine gl_cons (gs_val (val_assign rfl) rfl rfl rfl ?_)
  refine gl_nil ?_
  refine gk_seq ?_
  refine gc_seq ?_
  refine gc_block ?_
  refine gc_loop (σ := Nat × Option Addr × Nat × List Ent) (I := fun s => 8 * s.1 < m + 8 ∧ Own 5 1 s.2.1 (8 * s.1) s.2.2.1 ((((St.begin 6#64).take x).blocks s.1).map U8) s.2.2.2) (μ := fun s => m - 8 * s.1) (EI := fun v => [(1, I64 (m : Int)), (5, .pointer (some ⟨b5, 0, none⟩)), (6, .slice v.2.1 (8 * v.1) v.2.2.1)]) (LI := fun v => ⟨b5, .cells (stL (((St.begin 6#64).take x).stirs v.1)).toArray 218 (0, 0)⟩ :: v.2.2.2) (0, none, 0, []) ?_ ?_ ?_ ?_
  · exact ⟨by show 8 * 0 < m + 8; omega, .nil⟩
  · exact (.cons rfl (.cons rfl (.cons rfl .nil)))
  · exact fun _ h => h.sub (List.Sublist.cons_cons _ (List.nil_sublist _))
  · intro ⟨k, ba, c, N⟩ ⟨hk8, hown⟩
    dsimp only
    have hk8 : 8 * k < m + 8 := hk8
    have hown : Own 5 1 ba (8 * k) c ((((St.begin 6#64).take x).blocks k).map U8) N := hown
    refine gc_seq ?_
    refine gc_seq ?_
    refine gc_region ?_
    refine gl_cons (gs_val (val_move rfl) rfl rfl rfl ?_)
    refine gl_cons (gs_val (val_lenSli ksl54 rfl) rfl rfl rfl ?_)
    refine gl_cons (gs_val (val_move rfl) rfl rfl rfl ?_)
    refine gl_cons (gs_val (val_lss rfl rfl) rfl rfl rfl ?_)
    refine gl_nil ?_
    refine gk_seq ?_
    refine gc_if rfl (fun hk => ?_) (fun hk => ?_)
    · have hk : 8 * k < m := by omega
      refine gc_skip ?_
      refine gk_seq ?_
      refine gc_block ?_
      refine gc_seq ?_
      refine gc_region ?_
      refine gl_cons (gs_mods (enters kcall157 (.cons rfl .nil)) (digest_spec _ _ ⟨_, _, _, _⟩) rfl rfl rfl (by first | exact .head | exact .tail .head | exact .tail (.tail .head) | exact .tail (.tail (.tail .head)) | exact .tail (.tail (.tail (.tail .head))) | exact .tail (.tail (.tail (.tail (.tail .head))))) (fun _ _ => trivial) ?_)
      refine gl_cons (gs_alloc kze31 rfl rfl rfl (fun b7 => ?_))
      refine gl_cons (gs_store ksz31 rfl rfl rfl rfl rfl rfl (by first | exact .head | exact .tail .head | exact .tail (.tail .head) | exact .tail (.tail (.tail .head)) | exact .tail (.tail (.tail (.tail .head))) | exact .tail (.tail (.tail (.tail (.tail .head))))) (by simp) (by first | ((with_reducible refine splice_all _ _ ?_); simp; done) | (simp only [splice, stL, digL, List.take_succ_cons, List.take_zero, List.drop_succ_cons, List.drop_zero, List.length_cons, List.length_nil, Nat.reduceAdd, Nat.reduceMul, Nat.zero_add, Nat.zero_mul, List.cons_append, List.nil_append]; exact rfl)) ?_)
      refine gl_nil ?_
      refine gk_seq ?_
      refine gc_seq ?_
      refine gc_region ?_
      refine gl_cons (gs_val (val_move rfl) rfl rfl rfl ?_)
      refine gl_cons (gs_val (val_sliceArr kar31 rfl) rfl rfl rfl ?_)
      refine gl_cons (gs_append ksl54 kze5 rfl rfl rfl rfl rfl rfl (hown) (fun _ => by first | exact .here | exact .headR | exact .app | exact .tail .here | exact .tail .headR | exact .tail .app | exact .tail (.tail .here) | exact .tail (.tail .headR) | exact .tail (.tail .app) | exact .tail (.tail (.tail .here)) | exact .tail (.tail (.tail .headR)) | exact .tail (.tail (.tail .app)) | exact .tail (.tail (.tail (.tail .here))) | exact .tail (.tail (.tail (.tail .headR))) | exact .tail (.tail (.tail (.tail .app))) | exact .tail (.tail (.tail (.tail (.tail .here)))) | exact .tail (.tail (.tail (.tail (.tail .headR)))) | exact .tail (.tail (.tail (.tail (.tail .app)))) | exact .appr .here | exact .appr .headR | exact .appr .app | exact .tail (.appr .here) | exact .tail (.appr .headR) | exact .tail (.appr .app) | exact .tail (.tail (.appr .here)) | exact .tail (.tail (.appr .headR)) | exact .tail (.tail (.appr .app)) | exact .appr (.tail .here) | exact .appr (.tail .headR) | exact .appr (.tail .app) | exact .appr (.tail (.tail .here)) | exact .appr (.tail (.tail .headR)) | exact .appr (.tail (.tail .app)) | exact .appr (.appr .here) | exact .appr (.appr .headR) | exact .appr (.appr .app) | exact .tail (.appr (.appr .here)) | exact .tail (.appr (.appr .headR)) | exact .tail (.appr (.appr .app)) | exact .appr (.appr (.tail .here)) | exact .appr (.appr (.tail .headR)) | exact .appr (.appr (.tail .app)) | exact .appr (.appr (.appr .here)) | exact .appr (.appr (.appr .headR)) | exact .appr (.appr (.appr .app))) (brings_slice ksl54 (sees_all (by repeat (first | exact .head _ | refine .tail _ ?_ | refine List.mem_append_right _ ?_))) rfl (one_dig _)) (by omega) (fun ba25 c25 N25 hown25 => ?_))
      refine gl_cons (gs_val (val_assign rfl) rfl rfl rfl ?_)
      refine gl_nil ?_
      refine gk_seq ?_
      refine gc_region ?_
      refine gl_cons (gs_mods (enters kcall182 (.cons rfl .nil)) (stir_spec _ _ ⟨_, _, _, _⟩) rfl rfl rfl (by first | exact .head | exact .tail .head | exact .tail (.tail .head) | exact .tail (.tail (.tail .head)) | exact .tail (.tail (.tail (.tail .head))) | exact .tail (.tail (.tail (.tail (.tail .head))))) (fun _ _ => trivial) ?_)
      refine gl_nil ?_
      refine gk_block ?_
      refine gk_again (k + 1, ba25, c25, N25) ?_ ?_ ?_ ?_
      · exact ⟨by show 8 * (k + 1) < m + 8; omega, by rw [St.blocks, List.map_append]; exact hown25⟩
      · show m - 8 * (k + 1) < m - 8 * k; omega
      · exact (.cons (rfl) (.cons (rfl) (.cons (rfl) .nil)))
      · exact fun _ h => h.sub (List.sublist_cons_self _ _)
    · have e : k = (m + 7) / 8 := by omega
      have hcap := hown.cap
      refine gc_exit ?_
      refine gk_seq_exit ?_
      refine gk_loop_exit ?_
      refine gk_block_exit ?_
      refine gk_seq ?_
      refine gc_seq ?_
      refine gc_region ?_
      refine gl_cons (gs_val (val_move rfl) rfl rfl rfl ?_)
      refine gl_cons (gs_val (val_move rfl) rfl rfl rfl ?_)
      refine gl_cons (gs_val (val_move rfl) rfl rfl rfl ?_)
      refine gl_cons (gs_val (val_sliceHM ksl54 rfl rfl rfl rfl rfl (by omega)) rfl rfl rfl ?_)
      refine gl_cons (gs_val (val_assign rfl) rfl rfl rfl ?_)
      refine gl_nil ?_
      refine gk_seq ?_
      refine gc_ret ?_
      refine gk_ret rfl (resv_tmp rfl .nil) (List.sublist_cons_self _ _) ?_
      refine ⟨(ba, m, N), ?_, rfl, rfl⟩
      have hr := hown.reslice (m := m) (c' := m) (by omega) (Nat.le_refl _) (by omega)
      rw [Nat.mul_one, ← List.map_take, e] at hr
      exact hr

/-- baize/hash.Stream -/
theorem stream_lo (x : BitVec 64) (n : Int) (h : n < 1) : Pure Try.prog 179 ([Dig x, I64 n]).toArray (fun _ => True) (.slice none 0 0) := by
  refine spec_walk (n := 31) Try.func179 rfl rfl rfl (fun w0 hpre => ?_)
  refine gc_seq ?_
  refine gc_region ?_
  refine gl_cons (gs_box rfl rfl rfl rfl (fun b2 => ?_))
  refine gl_cons (gs_val (val_assign rfl) rfl rfl rfl ?_)
  refine gl_nil ?_
  refine gk_seq ?_
  refine gc_seq ?_
  refine gc_seq ?_
  refine gc_region ?_
  refine gl_cons (gs_val (val_move rfl) rfl rfl rfl ?_)
  refine gl_cons (gs_val (val_yes (val_lss rfl rfl) (by omega)) rfl rfl rfl ?_)
  refine gl_cons (gs_val (val_move rfl) rfl rfl rfl ?_)
  refine gl_cons (gs_skip rfl rfl rfl ?_)
  refine gl_cons (gs_skip rfl rfl rfl ?_)
  refine gl_cons (gs_val (val_pick_t rfl rfl) rfl rfl rfl ?_)
  refine gl_nil ?_
  refine gk_seq ?_
  refine gc_true rfl ?_
  refine gc_seq ?_
  refine gc_region ?_
  refine gl_cons (gs_val (val_assign rfl) rfl rfl rfl ?_)
  refine gl_nil ?_
  refine gk_seq ?_
  refine gc_ret ?_
  refine gk_seq_ret ?_
  refine gk_ret rfl (resv_tmp rfl .nil) (List.nil_sublist _) ?_
  exact ⟨rfl, rfl⟩

/-- baize/hash.Stream -/
theorem stream_hi (x : BitVec 64) (n : Int) (h : 1048576 < n) : Pure Try.prog 179 ([Dig x, I64 n]).toArray (fun _ => True) (.slice none 0 0) := by
  refine spec_walk (n := 31) Try.func179 rfl rfl rfl (fun w0 hpre => ?_)
  refine gc_seq ?_
  refine gc_region ?_
  refine gl_cons (gs_box rfl rfl rfl rfl (fun b2 => ?_))
  refine gl_cons (gs_val (val_assign rfl) rfl rfl rfl ?_)
  refine gl_nil ?_
  refine gk_seq ?_
  refine gc_seq ?_
  refine gc_seq ?_
  refine gc_region ?_
  refine gl_cons (gs_val (val_move rfl) rfl rfl rfl ?_)
  refine gl_cons (gs_val (val_no (val_lss rfl rfl) (by omega)) rfl rfl rfl ?_)
  refine gl_cons (gs_val (val_move rfl) rfl rfl rfl ?_)
  refine gl_cons (gs_val (val_move rfl) rfl rfl rfl ?_)
  refine gl_cons (gs_val (val_yes (val_gtr rfl rfl) (by omega)) rfl rfl rfl ?_)
  refine gl_cons (gs_val (val_pick_f rfl rfl) rfl rfl rfl ?_)
  refine gl_nil ?_
  refine gk_seq ?_
  refine gc_true rfl ?_
  refine gc_seq ?_
  refine gc_region ?_
  refine gl_cons (gs_val (val_assign rfl) rfl rfl rfl ?_)
  refine gl_nil ?_
  refine gk_seq ?_
  refine gc_ret ?_
  refine gk_seq_ret ?_
  refine gk_ret rfl (resv_tmp rfl .nil) (List.nil_sublist _) ?_
  exact ⟨rfl, rfl⟩

theorem stream_spec (x : BitVec 64) (n : Int) : Makes Try.prog 179 ([Dig x, I64 n]).toArray (fun _ => True) (fun s : Option Addr × Nat × List Ent => Own 5 1 s.1 (hStreamI x n).length s.2.1 ((hStreamI x n).map U8) s.2.2) (fun s => .slice s.1 (hStreamI x n).length s.2.1) (fun s => s.2.2) := by
  unfold hStreamI
  split
  · rename_i h
    obtain ⟨m, rfl⟩ : ∃ m : Nat, n = (m : Int) := ⟨n.toNat, by omega⟩
    rw [Int.toNat_natCast, hStream_len]
    exact stream_mid x m (by omega) (by omega)
  · rename_i h
    intro w0 h1 h2 h3
    rcases Int.lt_or_le n 1 with h4 | h4
    · exact (stream_lo x n h4 w0 h1 h2 h3).mono fun e w ⟨v, L', e1, ⟨e2, e3⟩, e4⟩ => ⟨v, L', e1, ⟨(none, 0, []), .nil, e2, e3⟩, e4⟩
    · exact (stream_hi x n (by omega) w0 h1 h2 h3).mono fun e w ⟨v, L', e1, ⟨e2, e3⟩, e4⟩ => ⟨v, L', e1, ⟨(none, 0, []), .nil, e2, e3⟩, e4⟩

end Go.Proofs.Ytddckbhlfeegoaa
