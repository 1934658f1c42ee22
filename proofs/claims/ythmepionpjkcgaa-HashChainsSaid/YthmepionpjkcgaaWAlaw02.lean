/- The walk of functions of the program: what each computes, for every input. -/
import Derived.Test.YthmepionpjkcgaaWAFacts
import Derived.Test.YthmepionpjkcgaaWAhash
import Derived.Test.YthmepionpjkcgaaWAref02
namespace Go.Proofs.Ythmepionpjkcgaa
open Go Go.Eng
set_option linter.unusedVariables false
set_option linter.unusedSimpArgs false

/-- baize/baizelaw02.known -/
theorem known02_spec  : Pure Try.prog 35 ([]).toArray (fun _ => True) (.bool true) := by
  refine spec_walk (n := 30) Try.func35 rfl rfl rfl (fun w0 hpre => ?_)
  refine gc_seq ?_
  refine gc_region ?_
  refine gl_cons (gs_val (val_assign rfl) rfl rfl rfl ?_)
  refine gl_nil ?_
  refine gk_seq ?_
  refine gc_seq ?_
  refine gc_region ?_
  refine gl_cons (gs_pure (enters kcall38 (.cons rfl .nil)) (fromNum_spec 261#64) rfl rfl rfl (fun _ _ => trivial) ?_)
  refine gl_cons (gs_alloc kze24 rfl rfl rfl (fun b1 => ?_))
  refine gl_cons (gs_store ksz24 rfl rfl rfl rfl rfl rfl (by first | exact .head | exact .tail .head | exact .tail (.tail .head) | exact .tail (.tail (.tail .head)) | exact .tail (.tail (.tail (.tail .head))) | exact .tail (.tail (.tail (.tail (.tail .head))))) (by simp) (by first | ((with_reducible refine splice_all _ _ ?_); simp; done) | (simp only [splice, stL, digL, List.take_succ_cons, List.take_zero, List.drop_succ_cons, List.drop_zero, List.length_cons, List.length_nil, Nat.reduceAdd, Nat.reduceMul, Nat.zero_add, Nat.zero_mul, List.cons_append, List.nil_append]; exact rfl)) ?_)
  refine gl_nil ?_
  refine gk_seq ?_
  refine gc_seq ?_
  refine gc_draw (m := 23) kmixed (by kernel_rfl) ?_
  refine gq_val (val_cast (v := Dig 261#64) (val_buildArr kze24 kar24 (.cons rfl (.cons rfl .nil)) rfl (.cons rfl rfl rfl (by simp) (by first | ((with_reducible refine splice_all _ _ ?_); simp; done) | (simp only [splice, stL, digL, List.take_succ_cons, List.take_zero, List.drop_succ_cons, List.drop_zero, List.length_cons, List.length_nil, Nat.reduceAdd, Nat.reduceMul, Nat.zero_add, Nat.zero_mul, List.cons_append, List.nil_append]; exact rfl)) (.cons rfl rfl rfl (by simp) (by first | ((with_reducible refine splice_all _ _ ?_); simp; done) | (simp only [splice, stL, digL, List.take_succ_cons, List.take_zero, List.drop_succ_cons, List.drop_zero, List.length_cons, List.length_nil, Nat.reduceAdd, Nat.reduceMul, Nat.zero_add, Nat.zero_mul, List.cons_append, List.nil_append]; exact rfl)) .nil))) rfl) rfl rfl rfl ?_
  refine gq_pure (enters kcall36 (.cons rfl .nil)) (num_spec 261#64) rfl rfl rfl (fun _ _ => trivial) ?_
  refine gq_val (val_yes (val_eq64 (j := 261#64) rfl rfl rfl rfl) rfl) rfl rfl rfl ?_
  refine gq_val (val_move rfl) rfl rfl rfl ?_
  refine gq_val (val_indexArr (m := 0) kar24 rfl rfl rfl (by decide)) rfl rfl rfl ?_
  refine gq_val (val_load1 kag5 rfl (sees_mem (by first | exact .head _ | exact .tail _ (.head _) | exact .tail _ (.tail _ (.head _)) | exact .tail _ (.tail _ (.tail _ (.head _))) | exact .tail _ (.tail _ (.tail _ (.tail _ (.head _)))) | exact .tail _ (.tail _ (.tail _ (.tail _ (.tail _ (.head _))))))) rfl) rfl rfl rfl ?_
  refine gq_val (val_yes (val_eql rfl rfl) (by decide)) rfl rfl rfl ?_
  refine gq_val (val_pick_t rfl rfl) rfl rfl rfl ?_
  refine gq_val (val_move rfl) rfl rfl rfl ?_
  refine gq_val (val_indexArr (m := 1) kar24 rfl rfl rfl (by decide)) rfl rfl rfl ?_
  refine gq_val (val_load1 kag5 rfl (sees_mem (by first | exact .head _ | exact .tail _ (.head _) | exact .tail _ (.tail _ (.head _)) | exact .tail _ (.tail _ (.tail _ (.head _))) | exact .tail _ (.tail _ (.tail _ (.tail _ (.head _)))) | exact .tail _ (.tail _ (.tail _ (.tail _ (.tail _ (.head _))))))) rfl) rfl rfl rfl ?_
  refine gq_val (val_yes (val_eql rfl rfl) (by decide)) rfl rfl rfl ?_
  refine gq_val (val_pick_t rfl rfl) rfl rfl rfl ?_
  refine gq_val (val_move rfl) rfl rfl rfl ?_
  refine gq_val (val_loadA kag24 rfl (sees_mem (by first | exact .head _ | exact .tail _ (.head _) | exact .tail _ (.tail _ (.head _)) | exact .tail _ (.tail _ (.tail _ (.head _))) | exact .tail _ (.tail _ (.tail _ (.tail _ (.head _)))) | exact .tail _ (.tail _ (.tail _ (.tail _ (.tail _ (.head _))))))) rfl rfl) rfl rfl rfl ?_
  refine gq_pure (enters kcall40 (.cons rfl (.cons rfl .nil))) (chain_spec 261#64 2) rfl rfl rfl (fun _ _ => trivial) ?_
  refine gq_val (val_loadA kag24 rfl (sees_mem (by first | exact .head _ | exact .tail _ (.head _) | exact .tail _ (.tail _ (.head _)) | exact .tail _ (.tail _ (.tail _ (.head _))) | exact .tail _ (.tail _ (.tail _ (.tail _ (.head _)))) | exact .tail _ (.tail _ (.tail _ (.tail _ (.tail _ (.head _))))))) rfl rfl) rfl rfl rfl ?_
  refine gq_pure (enters kcall42 (.cons rfl .nil)) (one_spec _) rfl rfl rfl (fun _ _ => trivial) ?_
  refine gq_pure (enters kcall42 (.cons rfl .nil)) (one_spec _) rfl rfl rfl (fun _ _ => trivial) ?_
  refine gq_val (val_yes (val_eqlDig kdig24 rfl rfl rfl rfl) (hChainI_two _)) rfl rfl rfl ?_
  refine gq_val (val_pick_t rfl rfl) rfl rfl rfl ?_
  refine gq_val (val_move rfl) rfl rfl rfl ?_
  refine gq_val (val_loadA kag24 rfl (sees_mem (by first | exact .head _ | exact .tail _ (.head _) | exact .tail _ (.tail _ (.head _)) | exact .tail _ (.tail _ (.tail _ (.head _))) | exact .tail _ (.tail _ (.tail _ (.tail _ (.head _)))) | exact .tail _ (.tail _ (.tail _ (.tail _ (.tail _ (.head _))))))) rfl rfl) rfl rfl rfl ?_
  refine gq_nil ?_
  refine gl_cons (gs_makes (enters kcall43 (.cons rfl (.cons rfl .nil))) (stream_spec 261#64 9) rfl rfl rfl (fun _ _ => trivial) (fun ⟨ba26, c26, N26⟩ h26 => ?_))
  refine gl_cons (gs_val (val_lenSli ksl37 rfl) rfl rfl rfl ?_)
  refine gl_cons (gs_val (val_yes (val_eql rfl rfl) (congrArg Nat.cast (hStreamI_nine _))) rfl rfl rfl ?_)
  refine gl_cons (gs_val (val_pick_t rfl rfl) rfl rfl rfl ?_)
  refine gl_cons (gs_val (val_assign rfl) rfl rfl rfl ?_)
  refine gl_nil ?_
  refine gk_seq ?_
  refine gc_ret ?_
  refine gk_ret rfl (resv_tmp rfl .nil) (List.nil_sublist _) ?_
  exact ⟨rfl, rfl⟩

/-- baize/baizelaw02.HashNums -/
theorem hashNums_walk (x n : BitVec 64) : Pure Try.prog 3 ([Dig x, U64 n]).toArray (fun _ => True) (.bool true) := by
  refine spec_walk (n := 36) Try.func3 rfl rfl rfl (fun w0 hpre => ?_)
  refine gc_seq ?_
  refine gc_region ?_
  refine gl_cons (gs_box rfl rfl rfl rfl (fun b2 => ?_))
  refine gl_cons (gs_val (val_assign rfl) rfl rfl rfl ?_)
  refine gl_nil ?_
  refine gk_seq ?_
  refine gc_seq ?_
  refine gc_region ?_
  refine gl_cons (gs_val (val_loadA kag22 rfl (sees_mem (by first | exact .head _ | exact .tail _ (.head _) | exact .tail _ (.tail _ (.head _)) | exact .tail _ (.tail _ (.tail _ (.head _))) | exact .tail _ (.tail _ (.tail _ (.tail _ (.head _)))) | exact .tail _ (.tail _ (.tail _ (.tail _ (.tail _ (.head _))))))) rfl rfl) rfl rfl rfl ?_)
  refine gl_cons (gs_alloc kze24 rfl rfl rfl (fun b5 => ?_))
  refine gl_cons (gs_store ksz24 rfl rfl rfl rfl rfl rfl (by first | exact .head | exact .tail .head | exact .tail (.tail .head) | exact .tail (.tail (.tail .head)) | exact .tail (.tail (.tail (.tail .head))) | exact .tail (.tail (.tail (.tail (.tail .head))))) (by simp) (by first | ((with_reducible refine splice_all _ _ ?_); simp; done) | (simp only [splice, stL, digL, List.take_succ_cons, List.take_zero, List.drop_succ_cons, List.drop_zero, List.length_cons, List.length_nil, Nat.reduceAdd, Nat.reduceMul, Nat.zero_add, Nat.zero_mul, List.cons_append, List.nil_append]; exact rfl)) ?_)
  refine gl_nil ?_
  refine gk_seq ?_
  refine gc_seq ?_
  refine gc_drawAll kmixed (by kernel_rfl) ?_
  refine gq_pure (enters kcall35 .nil) (known02_spec) rfl rfl rfl (fun _ _ => trivial) ?_
  refine gq_val (val_move rfl) rfl rfl rfl ?_
  refine gq_val (val_loadA kag24 rfl (sees_mem (by first | exact .head _ | exact .tail _ (.head _) | exact .tail _ (.tail _ (.head _)) | exact .tail _ (.tail _ (.tail _ (.head _))) | exact .tail _ (.tail _ (.tail _ (.tail _ (.head _)))) | exact .tail _ (.tail _ (.tail _ (.tail _ (.tail _ (.head _))))))) rfl rfl) rfl rfl rfl ?_
  refine gq_pure (enters kcall36 (.cons rfl .nil)) (num_spec _) rfl rfl rfl (fun _ _ => trivial) ?_
  refine gq_val (val_loadA kag22 rfl (sees_mem (by first | exact .head _ | exact .tail _ (.head _) | exact .tail _ (.tail _ (.head _)) | exact .tail _ (.tail _ (.tail _ (.head _))) | exact .tail _ (.tail _ (.tail _ (.tail _ (.head _)))) | exact .tail _ (.tail _ (.tail _ (.tail _ (.tail _ (.head _))))))) rfl rfl) rfl rfl rfl ?_
  refine gq_pure (enters kcall37 (.cons rfl .nil)) (rnum_spec _) rfl rfl rfl (fun _ _ => trivial) ?_
  refine gq_val (val_yes (val_eq64 rfl rfl rfl rfl) rfl) rfl rfl rfl ?_
  refine gq_val (val_pick_t rfl rfl) rfl rfl rfl ?_
  refine gq_val (val_move rfl) rfl rfl rfl ?_
  refine gq_val (val_move rfl) rfl rfl rfl ?_
  refine gq_pure (enters kcall38 (.cons rfl .nil)) (fromNum_spec _) rfl rfl rfl (fun _ _ => trivial) ?_
  refine gq_val (val_move rfl) rfl rfl rfl ?_
  refine gq_pure (enters kcall39 (.cons rfl .nil)) (rfromNum_spec _) rfl rfl rfl (fun _ _ => trivial) ?_
  refine gq_val (val_yes (val_eqlDig kdig22 rfl rfl rfl rfl) rfl) rfl rfl rfl ?_
  refine gq_val (val_pick_t rfl rfl) rfl rfl rfl ?_
  refine gq_val (val_move rfl) rfl rfl rfl ?_
  refine gq_val (val_loadA kag24 rfl (sees_mem (by first | exact .head _ | exact .tail _ (.head _) | exact .tail _ (.tail _ (.head _)) | exact .tail _ (.tail _ (.tail _ (.head _))) | exact .tail _ (.tail _ (.tail _ (.tail _ (.head _)))) | exact .tail _ (.tail _ (.tail _ (.tail _ (.tail _ (.head _))))))) rfl rfl) rfl rfl rfl ?_
  refine gq_pure (enters kcall36 (.cons rfl .nil)) (num_spec _) rfl rfl rfl (fun _ _ => trivial) ?_
  refine gq_pure (enters kcall38 (.cons rfl .nil)) (fromNum_spec _) rfl rfl rfl (fun _ _ => trivial) ?_
  refine gq_val (val_loadA kag24 rfl (sees_mem (by first | exact .head _ | exact .tail _ (.head _) | exact .tail _ (.tail _ (.head _)) | exact .tail _ (.tail _ (.tail _ (.head _))) | exact .tail _ (.tail _ (.tail _ (.tail _ (.head _)))) | exact .tail _ (.tail _ (.tail _ (.tail _ (.tail _ (.head _))))))) rfl rfl) rfl rfl rfl ?_
  refine gq_val (val_yes (val_eqlDig kdig24 rfl rfl rfl rfl) rfl) rfl rfl rfl ?_
  refine gq_val (val_pick_t rfl rfl) rfl rfl rfl ?_
  refine gq_val (val_move rfl) rfl rfl rfl ?_
  refine gq_val (val_move rfl) rfl rfl rfl ?_
  refine gq_pure (enters kcall38 (.cons rfl .nil)) (fromNum_spec _) rfl rfl rfl (fun _ _ => trivial) ?_
  refine gq_pure (enters kcall36 (.cons rfl .nil)) (num_spec _) rfl rfl rfl (fun _ _ => trivial) ?_
  refine gq_val (val_move rfl) rfl rfl rfl ?_
  refine gq_val (val_yes (val_eq64 rfl rfl rfl rfl) rfl) rfl rfl rfl ?_
  refine gq_val (val_pick_t rfl rfl) rfl rfl rfl ?_
  refine gq_val (val_assign rfl) rfl rfl rfl ?_
  refine gq_nil ?_
  refine gl_nil ?_
  refine gk_seq ?_
  refine gc_ret ?_
  refine gk_ret rfl (resv_tmp rfl .nil) (List.nil_sublist _) ?_
  exact ⟨rfl, rfl⟩

/-- baize/baizelaw02.HashChains -/
theorem hashChains_walk (x : BitVec 64) (m n far : Int) (hm : 0 ≤ m) (hm2 : m ≤ 65535) (hn : 0 ≤ n) (hn2 : n ≤ 65535) : Pure Try.prog 4 ([Dig x, .int .u16 m, .int .u16 n, I64 far]).toArray (fun _ => True) (.bool true) := by
  obtain ⟨a, ha, ha2⟩ : ∃ a : Nat, m % 300 = (a : Int) ∧ a < 300 := ⟨(m % 300).toNat, by omega, by omega⟩
  obtain ⟨b, hb, hb2⟩ : ∃ b : Nat, n % 300 = (b : Int) ∧ b < 300 := ⟨(n % 300).toNat, by omega, by omega⟩
  refine spec_walk (n := 67) Try.func4 rfl rfl rfl (fun w0 hpre => ?_)
  refine gc_seq ?_
  refine gc_region ?_
  refine gl_cons (gs_box rfl rfl rfl rfl (fun b4 => ?_))
  refine gl_cons (gs_val (val_assign rfl) rfl rfl rfl ?_)
  refine gl_nil ?_
  refine gk_seq ?_
  refine gc_seq ?_
  refine gc_region ?_
  refine gl_cons (gs_val (val_move rfl) rfl rfl rfl ?_)
  refine gl_cons (gs_val (val_convI rfl kis31 kun3 (by omega)) rfl rfl rfl ?_)
  refine gl_cons (gs_val (val_cast (v := I64 (a : Int)) (val_remI rfl rfl (by omega)) (congrArg I64 ha)) rfl rfl rfl ?_)
  refine gl_cons (gs_val (val_move rfl) rfl rfl rfl ?_)
  refine gl_cons (gs_val (val_convI rfl kis31 kun3 (by omega)) rfl rfl rfl ?_)
  refine gl_cons (gs_val (val_cast (v := I64 (b : Int)) (val_remI rfl rfl (by omega)) (congrArg I64 hb)) rfl rfl rfl ?_)
  refine gl_cons (gs_val (val_assign rfl) rfl rfl rfl ?_)
  refine gl_cons (gs_val (val_assign rfl) rfl rfl rfl ?_)
  refine gl_nil ?_
  refine gk_seq ?_
  refine gc_seq ?_
  refine gc_region ?_
  refine gl_cons (gs_val (val_loadA kag22 rfl (sees_mem (by first | exact .head _ | exact .tail _ (.head _) | exact .tail _ (.tail _ (.head _)) | exact .tail _ (.tail _ (.tail _ (.head _))) | exact .tail _ (.tail _ (.tail _ (.tail _ (.head _)))) | exact .tail _ (.tail _ (.tail _ (.tail _ (.tail _ (.head _))))))) rfl rfl) rfl rfl rfl ?_)
  refine gl_cons (gs_alloc kze24 rfl rfl rfl (fun b11 => ?_))
  refine gl_cons (gs_store ksz24 rfl rfl rfl rfl rfl rfl (by first | exact .head | exact .tail .head | exact .tail (.tail .head) | exact .tail (.tail (.tail .head)) | exact .tail (.tail (.tail (.tail .head))) | exact .tail (.tail (.tail (.tail (.tail .head))))) (by simp) (by first | ((with_reducible refine splice_all _ _ ?_); simp; done) | (simp only [splice, stL, digL, List.take_succ_cons, List.take_zero, List.drop_succ_cons, List.drop_zero, List.length_cons, List.length_nil, Nat.reduceAdd, Nat.reduceMul, Nat.zero_add, Nat.zero_mul, List.cons_append, List.nil_append]; exact rfl)) ?_)
  refine gl_nil ?_
  refine gk_seq ?_
  refine gc_seq ?_
  refine gc_seq ?_
  refine gc_drawAll kmixed (by kernel_rfl) ?_
  refine gq_pure (enters kcall35 .nil) (known02_spec) rfl rfl rfl (fun _ _ => trivial) ?_
  refine gq_val (val_not rfl) rfl rfl rfl ?_
  refine gq_val (val_move rfl) rfl rfl rfl ?_
  refine gq_val (val_loadA kag24 rfl (sees_mem (by first | exact .head _ | exact .tail _ (.head _) | exact .tail _ (.tail _ (.head _)) | exact .tail _ (.tail _ (.tail _ (.head _))) | exact .tail _ (.tail _ (.tail _ (.tail _ (.head _)))) | exact .tail _ (.tail _ (.tail _ (.tail _ (.tail _ (.head _))))))) rfl rfl) rfl rfl rfl ?_
  refine gq_val (val_move rfl) rfl rfl rfl ?_
  refine gq_pure (enters kcall40 (.cons rfl (.cons rfl .nil))) (chain_spec _ _) rfl rfl rfl (fun _ _ => trivial) ?_
  refine gq_val (val_loadA kag22 rfl (sees_mem (by first | exact .head _ | exact .tail _ (.head _) | exact .tail _ (.tail _ (.head _)) | exact .tail _ (.tail _ (.tail _ (.head _))) | exact .tail _ (.tail _ (.tail _ (.tail _ (.head _)))) | exact .tail _ (.tail _ (.tail _ (.tail _ (.tail _ (.head _))))))) rfl rfl) rfl rfl rfl ?_
  refine gq_val (val_move rfl) rfl rfl rfl ?_
  refine gq_pure (enters kcall41 (.cons rfl (.cons rfl .nil))) (rchain_spec _ _) rfl rfl rfl (fun _ _ => trivial) ?_
  refine gq_val (val_no (val_neqDig kdig22 rfl rfl rfl rfl) (fun h => h rfl)) rfl rfl rfl ?_
  refine gq_val (val_pick_f rfl rfl) rfl rfl rfl ?_
  refine gq_val (val_move rfl) rfl rfl rfl ?_
  refine gq_val (val_loadA kag24 rfl (sees_mem (by first | exact .head _ | exact .tail _ (.head _) | exact .tail _ (.tail _ (.head _)) | exact .tail _ (.tail _ (.tail _ (.head _))) | exact .tail _ (.tail _ (.tail _ (.tail _ (.head _)))) | exact .tail _ (.tail _ (.tail _ (.tail _ (.tail _ (.head _))))))) rfl rfl) rfl rfl rfl ?_
  refine gq_val (val_move rfl) rfl rfl rfl ?_
  refine gq_pure (enters kcall40 (.cons rfl (.cons rfl .nil))) (chain_spec _ _) rfl rfl rfl (fun _ _ => trivial) ?_
  refine gq_val (val_move rfl) rfl rfl rfl ?_
  refine gq_pure (enters kcall40 (.cons rfl (.cons rfl .nil))) (chain_spec _ _) rfl rfl rfl (fun _ _ => trivial) ?_
  refine gq_val (val_loadA kag24 rfl (sees_mem (by first | exact .head _ | exact .tail _ (.head _) | exact .tail _ (.tail _ (.head _)) | exact .tail _ (.tail _ (.tail _ (.head _))) | exact .tail _ (.tail _ (.tail _ (.tail _ (.head _)))) | exact .tail _ (.tail _ (.tail _ (.tail _ (.tail _ (.head _))))))) rfl rfl) rfl rfl rfl ?_
  refine gq_val (val_move rfl) rfl rfl rfl ?_
  refine gq_val (val_move rfl) rfl rfl rfl ?_
  refine gq_val (val_addI rfl rfl (by omega)) rfl rfl rfl ?_
  refine gq_pure (enters kcall40 (.cons rfl (.cons rfl .nil))) (chain_spec _ _) rfl rfl rfl (fun _ _ => trivial) ?_
  refine gq_val (val_no (val_neqDig kdig24 rfl rfl rfl rfl) (fun h => h (hChainI_add x a b ha2 hb2))) rfl rfl rfl ?_
  refine gq_val (val_pick_f rfl rfl) rfl rfl rfl ?_
  refine gq_val (val_move rfl) rfl rfl rfl ?_
  refine gq_val (val_loadA kag24 rfl (sees_mem (by first | exact .head _ | exact .tail _ (.head _) | exact .tail _ (.tail _ (.head _)) | exact .tail _ (.tail _ (.tail _ (.head _))) | exact .tail _ (.tail _ (.tail _ (.tail _ (.head _)))) | exact .tail _ (.tail _ (.tail _ (.tail _ (.tail _ (.head _))))))) rfl rfl) rfl rfl rfl ?_
  refine gq_val (val_move rfl) rfl rfl rfl ?_
  refine gq_val (val_addI rfl rfl (by omega)) rfl rfl rfl ?_
  refine gq_pure (enters kcall40 (.cons rfl (.cons rfl .nil))) (chain_spec _ _) rfl rfl rfl (fun _ _ => trivial) ?_
  refine gq_val (val_loadA kag24 rfl (sees_mem (by first | exact .head _ | exact .tail _ (.head _) | exact .tail _ (.tail _ (.head _)) | exact .tail _ (.tail _ (.tail _ (.head _))) | exact .tail _ (.tail _ (.tail _ (.tail _ (.head _)))) | exact .tail _ (.tail _ (.tail _ (.tail _ (.tail _ (.head _))))))) rfl rfl) rfl rfl rfl ?_
  refine gq_val (val_move rfl) rfl rfl rfl ?_
  refine gq_pure (enters kcall40 (.cons rfl (.cons rfl .nil))) (chain_spec _ _) rfl rfl rfl (fun _ _ => trivial) ?_
  refine gq_pure (enters kcall42 (.cons rfl .nil)) (one_spec _) rfl rfl rfl (fun _ _ => trivial) ?_
  refine gq_val (val_no (val_neqDig kdig24 rfl rfl rfl rfl) (fun h => h (hChainI_succ x a ha2))) rfl rfl rfl ?_
  refine gq_val (val_pick_f rfl rfl) rfl rfl rfl ?_
  refine gq_nil ?_
  refine gl_nil ?_
  refine gk_seq ?_
  refine gc_false rfl ?_
  refine gc_skip ?_
  refine gk_seq ?_
  refine gc_seq ?_
  refine gc_drawAll kmixed (by kernel_rfl) ?_
  refine gq_val (val_move rfl) rfl rfl rfl ?_
  refine gq_val (val_geq rfl rfl) rfl rfl rfl ?_
  refine gq_val (val_move rfl) rfl rfl rfl ?_
  refine gq_split 56 rfl (fun h56 => ?_) (fun h56 => ?_)
  · skip
    refine gq_val (val_move rfl) rfl rfl rfl ?_
    refine gq_val (val_leq rfl rfl) rfl rfl rfl ?_
    refine gq_val (val_pick_t rfl rfl) rfl rfl rfl ?_
    refine gq_val (val_move rfl) rfl rfl rfl ?_
    refine gq_split 60 rfl (fun h60 => ?_) (fun h60 => ?_)
    · skip
      refine gq_skip rfl rfl rfl ?_
      refine gq_skip rfl rfl rfl ?_
      refine gq_skip rfl rfl rfl ?_
      refine gq_skip rfl rfl rfl ?_
      refine gq_skip rfl rfl rfl ?_
      refine gq_val (val_pick_t rfl rfl) rfl rfl rfl ?_
      refine gq_val (val_assign rfl) rfl rfl rfl ?_
      refine gq_nil ?_
      refine gl_nil ?_
      refine gk_seq ?_
      refine gc_ret ?_
      refine gk_ret rfl (resv_tmp rfl .nil) (List.nil_sublist _) ?_
      exact ⟨rfl, rfl⟩
    · skip
      refine gq_val (val_loadA kag24 rfl (sees_mem (by first | exact .head _ | exact .tail _ (.head _) | exact .tail _ (.tail _ (.head _)) | exact .tail _ (.tail _ (.tail _ (.head _))) | exact .tail _ (.tail _ (.tail _ (.tail _ (.head _)))) | exact .tail _ (.tail _ (.tail _ (.tail _ (.tail _ (.head _))))))) rfl rfl) rfl rfl rfl ?_
      refine gq_val (val_move rfl) rfl rfl rfl ?_
      refine gq_pure (enters kcall40 (.cons rfl (.cons rfl .nil))) (chain_spec _ _) rfl rfl rfl (fun _ _ => trivial) ?_
      refine gq_val (val_loadA kag24 rfl (sees_mem (by first | exact .head _ | exact .tail _ (.head _) | exact .tail _ (.tail _ (.head _)) | exact .tail _ (.tail _ (.tail _ (.head _))) | exact .tail _ (.tail _ (.tail _ (.tail _ (.head _)))) | exact .tail _ (.tail _ (.tail _ (.tail _ (.tail _ (.head _))))))) rfl rfl) rfl rfl rfl ?_
      refine gq_val (val_yes (val_eqlDig kdig24 rfl rfl rfl rfl) (hChainI_out x far (by omega))) rfl rfl rfl ?_
      refine gq_val (val_pick_f rfl rfl) rfl rfl rfl ?_
      refine gq_val (val_assign rfl) rfl rfl rfl ?_
      refine gq_nil ?_
      refine gl_nil ?_
      refine gk_seq ?_
      refine gc_ret ?_
      refine gk_ret rfl (resv_tmp rfl .nil) (List.nil_sublist _) ?_
      exact ⟨rfl, rfl⟩
  · skip
    refine gq_skip rfl rfl rfl ?_
    refine gq_skip rfl rfl rfl ?_
    refine gq_val (val_pick_f rfl rfl) rfl rfl rfl ?_
    refine gq_val (val_move rfl) rfl rfl rfl ?_
    refine gq_val (val_loadA kag24 rfl (sees_mem (by first | exact .head _ | exact .tail _ (.head _) | exact .tail _ (.tail _ (.head _)) | exact .tail _ (.tail _ (.tail _ (.head _))) | exact .tail _ (.tail _ (.tail _ (.tail _ (.head _)))) | exact .tail _ (.tail _ (.tail _ (.tail _ (.tail _ (.head _))))))) rfl rfl) rfl rfl rfl ?_
    refine gq_val (val_move rfl) rfl rfl rfl ?_
    refine gq_pure (enters kcall40 (.cons rfl (.cons rfl .nil))) (chain_spec _ _) rfl rfl rfl (fun _ _ => trivial) ?_
    refine gq_val (val_loadA kag24 rfl (sees_mem (by first | exact .head _ | exact .tail _ (.head _) | exact .tail _ (.tail _ (.head _)) | exact .tail _ (.tail _ (.tail _ (.head _))) | exact .tail _ (.tail _ (.tail _ (.tail _ (.head _)))) | exact .tail _ (.tail _ (.tail _ (.tail _ (.tail _ (.head _))))))) rfl rfl) rfl rfl rfl ?_
    refine gq_val (val_yes (val_eqlDig kdig24 rfl rfl rfl rfl) (hChainI_out x far (by omega))) rfl rfl rfl ?_
    refine gq_val (val_pick_f rfl rfl) rfl rfl rfl ?_
    refine gq_val (val_assign rfl) rfl rfl rfl ?_
    refine gq_nil ?_
    refine gl_nil ?_
    refine gk_seq ?_
    refine gc_ret ?_
    refine gk_ret rfl (resv_tmp rfl .nil) (List.nil_sublist _) ?_
    exact ⟨rfl, rfl⟩

end Go.Proofs.Ythmepionpjkcgaa
