/- The walk of functions of the program: what each computes, for every input. -/
import Derived.Test.YthmepionpjkcgaaWAFacts
import Derived.Test.YthmepionpjkcgaaWAhash
import Derived.Test.YthmepionpjkcgaaWAref02
namespace Go.Proofs.Ythmepionpjkcgaa
open Go Go.Eng
set_option linter.unusedVariables false
set_option linter.unusedSimpArgs false

/-- baize/baizelaw02.known -/
theorem known02_spec  : Pure Try.prog 35 ([]).toArray (fun _ => True) (.bool true) := by
  refine spec_walk (n := 30) Try.func35 rfl rfl rfl (fun w0 hpre => ?_)
  refine gc_seq ?_
  refine gc_region ?_
  refine gl_cons (gs_val (val_assign rfl) rfl rfl rfl ?_)
  refine gl_nil ?_
  refine gk_seq ?_
  refine gc_seq ?_
  refine gc_region ?_
  refine gl_cons (gs_pure (enters kcall38 (.cons rfl .nil)) (fromNum_spec 261#64) rfl rfl rfl (fun _ _ => trivial) ?_)
  refine gl_cons (gs_alloc kze24 rfl rfl rfl (fun b1 => ?_))
  refine gl_cons (gs_store ksz24 rfl rfl rfl rfl rfl rfl (by first | exact .head | exact .tail .head | exact .tail (.tail .head) | exact .tail (.tail (.tail .head)) | exact .tail (.tail (.tail (.tail .head))) | exact .tail (.tail (.tail (.tail (.tail .head))))) (by simp) (by first | ((with_reducible refine splice_all _ _ ?_); simp; done) | (simp only [splice, stL, digL, List.take_succ_cons, List.take_zero, List.drop_succ_cons, List.drop_zero, List.length_cons, List.length_nil, Nat.reduceAdd, Nat.reduceMul, Nat.zero_add, Nat.zero_mul, List.cons_append, List.nil_append]; exact rfl)) ?_)
  refine gl_nil ?_
  refine gk_seq ?_
  refine gc_seq ?_
  refine gc_draw (m := 23) kmixed (by kernel_rfl) ?_
  refine gq_val (val_cast (v := Dig 261#64) (val_buildArr kze24 kar24 (.cons rfl (.cons rfl .nil)) rfl (.cons rfl rfl rfl (by simp) (by first | ((with_reducible refine splice_all _ _ ?_); simp; done) | (simp only [splice, stL, digL, List.take_succ_cons, List.take_zero, List.drop_succ_cons, List.drop_zero, List.length_cons, List.length_nil, Nat.reduceAdd, Nat.reduceMul, Nat.zero_add, Nat.zero_mul, List.cons_append, List.nil_append]; exact rfl)) (.cons rfl rfl rfl (by simp) (by first | ((with_reducible refine splice_all _ _ ?_); simp; done) | (simp only [splice, stL, digL, List.take_succ_cons, List.take_zero, List.drop_succ_cons, List.drop_zero, List.length_cons, List.length_nil, Nat.reduceAdd, Nat.reduceMul, Nat.zero_add, Nat.zero_mul, List.cons_append, List.nil_append]; exact rfl)) .nil))) rfl) rfl rfl rfl ?_
  refine gq_pure (enters kcall36 (.cons rfl .nil)) (num_spec 261#64) rfl rfl rfl (fun _ _ => trivial) ?_
  refine gq_val (val_yes (val_eq64 (j := 261#64) rfl rfl rfl rfl) rfl) rfl rfl rfl ?_
  refine gq_val (val_move rfl) rfl rfl rfl ?_
  refine gq_val (val_indexArr (m := 0) kar24 rfl rfl rfl (by decide)) rfl rfl rfl ?_
  refine gq_val (val_load1 kag5 rfl (sees_mem (by repeat (first | exact .head _ | refine .tail _ ?_ | refine List.mem_append_right _ ?_))) rfl) rfl rfl rfl ?_
  refine gq_val (val_yes (val_eql rfl rfl) (by decide)) rfl rfl rfl ?_
  refine gq_val (val_pick_t rfl rfl) rfl rfl rfl ?_
  refine gq_val (val_move rfl) rfl rfl rfl ?_
  refine gq_val (val_indexArr (m := 1) kar24 rfl rfl rfl (by decide)) rfl rfl rfl ?_
  refine gq_val (val_load1 kag5 rfl (sees_mem (by repeat (first | exact .head _ | refine .tail _ ?_ | refine List.mem_append_right _ ?_))) rfl) rfl rfl rfl ?_
  refine gq_val (val_yes (val_eql rfl rfl) (by decide)) rfl rfl rfl ?_
  refine gq_val (val_pick_t rfl rfl) rfl rfl rfl ?_
  refine gq_val (val_move rfl) rfl rfl rfl ?_
  refine gq_val (val_loadA kag24 rfl (sees_mem (by repeat (first | exact .head _ | refine .tail _ ?_ | refine List.mem_append_right _ ?_))) rfl rfl) rfl rfl rfl ?_
  refine gq_pure (enters kcall40 (.cons rfl (.cons rfl .nil))) (chain_spec 261#64 2) rfl rfl rfl (fun _ _ => trivial) ?_
  refine gq_val (val_loadA kag24 rfl (sees_mem (by repeat (first | exact .head _ | refine .tail _ ?_ | refine List.mem_append_right _ ?_))) rfl rfl) rfl rfl rfl ?_
  refine gq_pure (enters kcall42 (.cons rfl .nil)) (one_spec _) rfl rfl rfl (fun _ _ => trivial) ?_
  refine gq_pure (enters kcall42 (.cons rfl .nil)) (one_spec _) rfl rfl rfl (fun _ _ => trivial) ?_
  refine gq_val (val_yes (val_eqlDig kdig24 rfl rfl rfl rfl) (hChainI_two _)) rfl rfl rfl ?_
  refine gq_val (val_pick_t rfl rfl) rfl rfl rfl ?_
  refine gq_val (val_move rfl) rfl rfl rfl ?_
  refine gq_val (val_loadA kag24 rfl (sees_mem (by repeat (first | exact .head _ | refine .tail _ ?_ | refine List.mem_append_right _ ?_))) rfl rfl) rfl rfl rfl ?_
  refine gq_nil ?_
  refine gl_cons (gs_makes (enters kcall43 (.cons rfl (.cons rfl .nil))) (stream_spec 261#64 9) rfl rfl rfl (fun _ _ => trivial) (fun ⟨ba26, c26, N26⟩ h26 => ?_))
  refine gl_cons (gs_val (val_lenSli ksl37 rfl) rfl rfl rfl ?_)
  refine gl_cons (gs_val (val_yes (val_eql rfl rfl) (congrArg Nat.cast (hStreamI_nine _))) rfl rfl rfl ?_)
  refine gl_cons (gs_val (val_pick_t rfl rfl) rfl rfl rfl ?_)
  refine gl_cons (gs_val (val_assign rfl) rfl rfl rfl ?_)
  refine gl_nil ?_
  refine gk_seq ?_
  refine gc_ret ?_
  refine gk_ret rfl (resv_tmp rfl .nil) (List.nil_sublist _) ?_
  exact ⟨rfl, rfl⟩

/-- baize/baizelaw02.HashNums -/
theorem hashNums_walk (x n : BitVec 64) : Pure Try.prog 3 ([Dig x, U64 n]).toArray (fun _ => True) (.bool true) := by
  refine spec_walk (n := 36) Try.func3 rfl rfl rfl (fun w0 hpre => ?_)
  refine gc_seq ?_
  refine gc_region ?_
  refine gl_cons (gs_box rfl rfl rfl rfl (fun b2 => ?_))
  refine gl_cons (gs_val (val_assign rfl) rfl rfl rfl ?_)
  refine gl_nil ?_
  refine gk_seq ?_
  refine gc_seq ?_
  refine gc_region ?_
  refine gl_cons (gs_val (val_loadA kag22 rfl (sees_mem (by repeat (first | exact .head _ | refine .tail _ ?_ | refine List.mem_append_right _ ?_))) rfl rfl) rfl rfl rfl ?_)
  refine gl_cons (gs_alloc kze24 rfl rfl rfl (fun b5 => ?_))
  refine gl_cons (gs_store ksz24 rfl rfl rfl rfl rfl rfl (by first | exact .head | exact .tail .head | exact .tail (.tail .head) | exact .tail (.tail (.tail .head)) | exact .tail (.tail (.tail (.tail .head))) | exact .tail (.tail (.tail (.tail (.tail .head))))) (by simp) (by first | ((with_reducible refine splice_all _ _ ?_); simp; done) | (simp only [splice, stL, digL, List.take_succ_cons, List.take_zero, List.drop_succ_cons, List.drop_zero, List.length_cons, List.length_nil, Nat.reduceAdd, Nat.reduceMul, Nat.zero_add, Nat.zero_mul, List.cons_append, List.nil_append]; exact rfl)) ?_)
  refine gl_nil ?_
  refine gk_seq ?_
  refine gc_seq ?_
  refine gc_drawAll kmixed (by kernel_rfl) ?_
  refine gq_pure (enters kcall35 .nil) (known02_spec) rfl rfl rfl (fun _ _ => trivial) ?_
  refine gq_val (val_move rfl) rfl rfl rfl ?_
  refine gq_val (val_loadA kag24 rfl (sees_mem (by repeat (first | exact .head _ | refine .tail _ ?_ | refine List.mem_append_right _ ?_))) rfl rfl) rfl rfl rfl ?_
  refine gq_pure (enters kcall36 (.cons rfl .nil)) (num_spec _) rfl rfl rfl (fun _ _ => trivial) ?_
  refine gq_val (val_loadA kag22 rfl (sees_mem (by repeat (first | exact .head _ | refine .tail _ ?_ | refine List.mem_append_right _ ?_))) rfl rfl) rfl rfl rfl ?_
  refine gq_pure (enters kcall37 (.cons rfl .nil)) (rnum_spec _) rfl rfl rfl (fun _ _ => trivial) ?_
  refine gq_val (val_yes (val_eq64 rfl rfl rfl rfl) rfl) rfl rfl rfl ?_
  refine gq_val (val_pick_t rfl rfl) rfl rfl rfl ?_
  refine gq_val (val_move rfl) rfl rfl rfl ?_
  refine gq_val (val_move rfl) rfl rfl rfl ?_
  refine gq_pure (enters kcall38 (.cons rfl .nil)) (fromNum_spec _) rfl rfl rfl (fun _ _ => trivial) ?_
  refine gq_val (val_move rfl) rfl rfl rfl ?_
  refine gq_pure (enters kcall39 (.cons rfl .nil)) (rfromNum_spec _) rfl rfl rfl (fun _ _ => trivial) ?_
  refine gq_val (val_yes (val_eqlDig kdig22 rfl rfl rfl rfl) rfl) rfl rfl rfl ?_
  refine gq_val (val_pick_t rfl rfl) rfl rfl rfl ?_
  refine gq_val (val_move rfl) rfl rfl rfl ?_
  refine gq_val (val_loadA kag24 rfl (sees_mem (by repeat (first | exact .head _ | refine .tail _ ?_ | refine List.mem_append_right _ ?_))) rfl rfl) rfl rfl rfl ?_
  refine gq_pure (enters kcall36 (.cons rfl .nil)) (num_spec _) rfl rfl rfl (fun _ _ => trivial) ?_
  refine gq_pure (enters kcall38 (.cons rfl .nil)) (fromNum_spec _) rfl rfl rfl (fun _ _ => trivial) ?_
  refine gq_val (val_loadA kag24 rfl (sees_mem (by repeat (first | exact .head _ | refine .tail _ ?_ | refine List.mem_append_right _ ?_))) rfl rfl) rfl rfl rfl ?_
  refine gq_val (val_yes (val_eqlDig kdig24 rfl rfl rfl rfl) rfl) rfl rfl rfl ?_
  refine gq_val (val_pick_t rfl rfl) rfl rfl rfl ?_
  refine gq_val (val_move rfl) rfl rfl rfl ?_
  refine gq_val (val_move rfl) rfl rfl rfl ?_
  refine gq_pure (enters kcall38 (.cons rfl .nil)) (fromNum_spec _) rfl rfl rfl (fun _ _ => trivial) ?_
  refine gq_pure (enters kcall36 (.cons rfl .nil)) (num_spec _) rfl rfl rfl (fun _ _ => trivial) ?_
  refine gq_val (val_move rfl) rfl rfl rfl ?_
  refine gq_val (val_yes (val_eq64 rfl rfl rfl rfl) rfl) rfl rfl rfl ?_
  refine gq_val (val_pick_t rfl rfl) rfl rfl rfl ?_
  refine gq_val (val_assign rfl) rfl rfl rfl ?_
  refine gq_nil ?_
  refine gl_nil ?_
  refine gk_seq ?_
  refine gc_ret ?_
  refine gk_ret rfl (resv_tmp rfl .nil) (List.nil_sublist _) ?_
  exact ⟨rfl, rfl⟩

/-- baize/baizelaw02.HashChains -/
theorem hashChains_walk (x : BitVec 64) (m n far : Int) (hm : 0 ≤ m) (hm2 : m ≤ 65535) (hn : 0 ≤ n) (hn2 : n ≤ 65535) : Pure Try.prog 4 ([Dig x, .int .u16 m, .int .u16 n, I64 far]).toArray (fun _ => True) (.bool true) := by
  obtain ⟨a, ha, ha2⟩ : ∃ a : Nat, m % 300 = (a : Int) ∧ a < 300 := ⟨(m % 300).toNat, by omega, by omega⟩
  obtain ⟨b, hb, hb2⟩ : ∃ b : Nat, n % 300 = (b : Int) ∧ b < 300 := ⟨(n % 300).toNat, by omega, by omega⟩
  refine spec_walk (n := 67) Try.func4 rfl rfl rfl (fun w0 hpre => ?_)
  refine gc_seq ?_
  refine gc_region ?_
  refine gl_cons (gs_box rfl rfl rfl rfl (fun b4 => ?_))
  refine gl_cons (gs_val (val_assign rfl) rfl rfl rfl ?_)
  refine gl_nil ?_
  refine gk_seq ?_
  refine gc_seq ?_
  refine gc_region ?_
  refine gl_cons (gs_val (val_move rfl) rfl rfl rfl ?_)
  refine gl_cons (gs_val (val_convI rfl kis31 kun3 (by omega)) rfl rfl rfl ?_)
  refine gl_cons (gs_val (val_cast (v := I64 (a : Int)) (val_remI rfl rfl (by omega)) (congrArg I64 ha)) rfl rfl rfl ?_)
  refine gl_cons (gs_val (val_move rfl) rfl rfl rfl ?_)
  refine gl_cons (gs_val (val_convI rfl kis31 kun3 (by omega)) rfl rfl rfl ?_)
  refine gl_cons (gs_val (val_cast (v := I64 (b : Int)) (val_remI rfl rfl (by omega)) (congrArg I64 hb)) rfl rfl rfl ?_)
  refine gl_cons (gs_val (val_assign rfl) rfl rfl rfl ?_)
  refine gl_cons (gs_val (val_assign rfl) rfl rfl rfl ?_)
  refine gl_nil ?_
  refine gk_seq ?_
  refine gc_seq ?_
  refine gc_region ?_
  refine gl_cons (gs_val (val_loadA kag22 rfl (sees_mem (by repeat (first | exact .head _ | refine .tail _ ?_ | refine List.mem_append_right _ ?_))) rfl rfl) rfl rfl rfl ?_)
  refine gl_cons (gs_alloc kze24 rfl rfl rfl (fun b11 => ?_))
  refine gl_cons (gs_store ksz24 rfl rfl rfl rfl rfl rfl (by first | exact .head | exact .tail .head | exact .tail (.tail .head) | exact .tail (.tail (.tail .head)) | exact .tail (.tail (.tail (.tail .head))) | exact .tail (.tail (.tail (.tail (.tail .head))))) (by simp) (by first | ((with_reducible refine splice_all _ _ ?_); simp; done) | (simp only [splice, stL, digL, List.take_succ_cons, List.take_zero, List.drop_succ_cons, List.drop_zero, List.length_cons, List.length_nil, Nat.reduceAdd, Nat.reduceMul, Nat.zero_add, Nat.zero_mul, List.cons_append, List.nil_append]; exact rfl)) ?_)
  refine gl_nil ?_
  refine gk_seq ?_
  refine gc_seq ?_
  refine gc_seq ?_
  refine gc_drawAll kmixed (by kernel_rfl) ?_
  refine gq_pure (enters kcall35 .nil) (known02_spec) rfl rfl rfl (fun _ _ => trivial) ?_
  refine gq_val (val_not rfl) rfl rfl rfl ?_
  refine gq_val (val_move rfl) rfl rfl rfl ?_
  refine gq_val (val_loadA kag24 rfl (sees_mem (by repeat (first | exact .head _ | refine .tail _ ?_ | refine List.mem_append_right _ ?_))) rfl rfl) rfl rfl rfl ?_
  refine gq_val (val_move rfl) rfl rfl rfl ?_
  refine gq_pure (enters kcall40 (.cons rfl (.cons rfl .nil))) (chain_spec _ _) rfl rfl rfl (fun _ _ => trivial) ?_
  refine gq_val (val_loadA kag22 rfl (sees_mem (by repeat (first | exact .head _ | refine .tail _ ?_ | refine List.mem_append_right _ ?_))) rfl rfl) rfl rfl rfl ?_
  refine gq_val (val_move rfl) rfl rfl rfl ?_
  refine gq_pure (enters kcall41 (.cons rfl (.cons rfl .nil))) (rchain_spec _ _) rfl rfl rfl (fun _ _ => trivial) ?_
  refine gq_val (val_no (val_neqDig kdig22 rfl rfl rfl rfl) (fun h => h rfl)) rfl rfl rfl ?_
  refine gq_val (val_pick_f rfl rfl) rfl rfl rfl ?_
  refine gq_val (val_move rfl) rfl rfl rfl ?_
  refine gq_val (val_loadA kag24 rfl (sees_mem (by repeat (first | exact .head _ | refine .tail _ ?_ | refine List.mem_append_right _ ?_))) rfl rfl) rfl rfl rfl ?_
  refine gq_val (val_move rfl) rfl rfl rfl ?_
  refine gq_pure (enters kcall40 (.cons rfl (.cons rfl .nil))) (chain_spec _ _) rfl rfl rfl (fun _ _ => trivial) ?_
  refine gq_val (val_move rfl) rfl rfl rfl ?_
  refine gq_pure (enters kcall40 (.cons rfl (.cons rfl .nil))) (chain_spec _ _) rfl rfl rfl (fun _ _ => trivial) ?_
  refine gq_val (val_loadA kag24 rfl (sees_mem (by repeat (first | exact .head _ | refine .tail _ ?_ | refine List.mem_append_right _ ?_))) rfl rfl) rfl rfl rfl ?_
  refine gq_val (val_move rfl) rfl rfl rfl ?_
  refine gq_val (val_move rfl) rfl rfl rfl ?_
  refine gq_val (val_addI rfl rfl (by omega)) rfl rfl rfl ?_
  refine gq_pure (enters kcall40 (.cons rfl (.cons rfl .nil))) (chain_spec _ _) rfl rfl rfl (fun _ _ => trivial) ?_
  refine gq_val (val_no (val_neqDig kdig24 rfl rfl rfl rfl) (fun h => h (hChainI_add x a b ha2 hb2))) rfl rfl rfl ?_
  refine gq_val (val_pick_f rfl rfl) rfl rfl rfl ?_
  refine gq_val (val_move rfl) rfl rfl rfl ?_
  refine gq_val (val_loadA kag24 rfl (sees_mem (by repeat (first | exact .head _ | refine .tail _ ?_ | refine List.mem_append_right _ ?_))) rfl rfl) rfl rfl rfl ?_
  refine gq_val (val_move rfl) rfl rfl rfl ?_
  refine gq_val (val_addI rfl rfl (by omega)) rfl rfl rfl ?_
  refine gq_pure (enters kcall40 (.cons rfl (.cons rfl .nil))) (chain_spec _ _) rfl rfl rfl (fun _ _ => trivial) ?_
  refine gq_val (val_loadA kag24 rfl (sees_mem (by repeat (first | exact .head _ | refine .tail _ ?_ | refine List.mem_append_right _ ?_))) rfl rfl) rfl rfl rfl ?_
  refine gq_val (val_move rfl) rfl rfl rfl ?_
  refine gq_pure (enters kcall40 (.cons rfl (.cons rfl .nil))) (chain_spec _ _) rfl rfl rfl (fun _ _ => trivial) ?_
  refine gq_pure (enters kcall42 (.cons rfl .nil)) (one_spec _) rfl rfl rfl (fun _ _ => trivial) ?_
  refine gq_val (val_no (val_neqDig kdig24 rfl rfl rfl rfl) (fun h => h (hChainI_succ x a ha2))) rfl rfl rfl ?_
  refine gq_val (val_pick_f rfl rfl) rfl rfl rfl ?_
  refine gq_nil ?_
  refine gl_nil ?_
  refine gk_seq ?_
  refine gc_false rfl ?_
  refine gc_skip ?_
  refine gk_seq ?_
  refine gc_seq ?_
  refine gc_drawAll kmixed (by kernel_rfl) ?_
  refine gq_val (val_move rfl) rfl rfl rfl ?_
  refine gq_val (val_geq rfl rfl) rfl rfl rfl ?_
  refine gq_val (val_move rfl) rfl rfl rfl ?_
  refine gq_split 56 rfl (fun h56 => ?_) (fun h56 => ?_)
  · skip
    refine gq_val (val_move rfl) rfl rfl rfl ?_
    refine gq_val (val_leq rfl rfl) rfl rfl rfl ?_
    refine gq_val (val_pick_t rfl rfl) rfl rfl rfl ?_
    refine gq_val (val_move rfl) rfl rfl rfl ?_
    refine gq_split 60 rfl (fun h60 => ?_) (fun h60 => ?_)
    · skip
      refine gq_skip rfl rfl rfl ?_
      refine gq_skip rfl rfl rfl ?_
      refine gq_skip rfl rfl rfl ?_
      refine gq_skip rfl rfl rfl ?_
      refine gq_skip rfl rfl rfl ?_
      refine gq_val (val_pick_t rfl rfl) rfl rfl rfl ?_
      refine gq_val (val_assign rfl) rfl rfl rfl ?_
      refine gq_nil ?_
      refine gl_nil ?_
      refine gk_seq ?_
      refine gc_ret ?_
      refine gk_ret rfl (resv_tmp rfl .nil) (List.nil_sublist _) ?_
      exact ⟨rfl, rfl⟩
    · skip
      refine gq_val (val_loadA kag24 rfl (sees_mem (by repeat (first | exact .head _ | refine .tail _ ?_ | refine List.mem_append_right _ ?_))) rfl rfl) rfl rfl rfl ?_
      refine gq_val (val_move rfl) rfl rfl rfl ?_
      refine gq_pure (enters kcall40 (.cons rfl (.cons rfl .nil))) (chain_spec _ _) rfl rfl rfl (fun _ _ => trivial) ?_
      refine gq_val (val_loadA kag24 rfl (sees_mem (by repeat (first | exact .head _ | refine .tail _ ?_ | refine List.mem_append_right _ ?_))) rfl rfl) rfl rfl rfl ?_
      refine gq_val (val_yes (val_eqlDig kdig24 rfl rfl rfl rfl) (hChainI_out x far (by omega))) rfl rfl rfl ?_
      refine gq_val (val_pick_f rfl rfl) rfl rfl rfl ?_
      refine gq_val (val_assign rfl) rfl rfl rfl ?_
      refine gq_nil ?_
      refine gl_nil ?_
      refine gk_seq ?_
      refine gc_ret ?_
      refine gk_ret rfl (resv_tmp rfl .nil) (List.nil_sublist _) ?_
      exact ⟨rfl, rfl⟩
  · skip
    refine gq_skip rfl rfl rfl ?_
    refine gq_skip rfl rfl rfl ?_
    refine gq_val (val_pick_f rfl rfl) rfl rfl rfl ?_
    refine gq_val (val_move rfl) rfl rfl rfl ?_
    refine gq_val (val_loadA kag24 rfl (sees_mem (by repeat (first | exact .head _ | refine .tail _ ?_ | refine List.mem_append_right _ ?_))) rfl rfl) rfl rfl rfl ?_
    refine gq_val (val_move rfl) rfl rfl rfl ?_
    refine gq_pure (enters kcall40 (.cons rfl (.cons rfl .nil))) (chain_spec _ _) rfl rfl rfl (fun _ _ => trivial) ?_
    refine gq_val (val_loadA kag24 rfl (sees_mem (by repeat (first | exact .head _ | refine .tail _ ?_ | refine List.mem_append_right _ ?_))) rfl rfl) rfl rfl rfl ?_
    refine gq_val (val_yes (val_eqlDig kdig24 rfl rfl rfl rfl) (hChainI_out x far (by omega))) rfl rfl rfl ?_
    refine gq_val (val_pick_f rfl rfl) rfl rfl rfl ?_
    refine gq_val (val_assign rfl) rfl rfl rfl ?_
    refine gq_nil ?_
    refine gl_nil ?_
    refine gk_seq ?_
    refine gc_ret ?_
    refine gk_ret rfl (resv_tmp rfl .nil) (List.nil_sublist _) ?_
    exact ⟨rfl, rfl⟩

/-- baize/baizelaw02.same -/
theorem same02_spec (ba bb : Option Addr) (n m c d : Nat) (l k : List UInt8) (hn : l.length = n) (hm : k.length = m) : Pure Try.prog 44 ([.slice ba n c, .slice bb m d]).toArray (fun w => Row w [] ba (l.map U8) ∧ Row w [] bb (k.map U8)) (.bool (decide (l = k))) := by
  refine spec_walk (n := 10) Try.func44 rfl rfl rfl (fun w0 hpre => ?_)
  refine gc_seq ?_
  refine gc_region ?_
  refine gl_cons (gs_val (val_assign rfl) rfl rfl rfl ?_)
  refine gl_nil ?_
  refine gk_seq ?_
  refine gc_seq ?_
  refine gc_region ?_
  refine gl_cons (gs_val (val_move rfl) rfl rfl rfl ?_)
  refine gl_cons (gs_val (val_bytesStr kun37 kun5 kun9 rfl (by first | rfl | assumption | simp | omega) (sees_row hpre.1)) rfl rfl rfl ?_)
  refine gl_cons (gs_val (val_move rfl) rfl rfl rfl ?_)
  refine gl_cons (gs_val (val_bytesStr kun37 kun5 kun9 rfl (by first | rfl | assumption | simp | omega) (sees_row hpre.2)) rfl rfl rfl ?_)
  refine gl_cons (gs_val (val_cast (v := .bool (decide (l = k))) (val_eqlS rfl rfl) (congrArg Value.bool (decide_eq_decide.2 (str_eq l k)))) rfl rfl rfl ?_)
  refine gl_cons (gs_val (val_assign rfl) rfl rfl rfl ?_)
  refine gl_nil ?_
  refine gk_seq ?_
  refine gc_ret ?_
  refine gk_ret rfl (resv_tmp rfl .nil) (List.nil_sublist _) ?_
  exact ⟨rfl, rfl⟩

theorem same02_yes (ba bb : Option Addr) (n m c d : Nat) (l k : List UInt8) (hn : l.length = n) (hm : k.length = m) (h : l = k) : Pure Try.prog 44 ([.slice ba n c, .slice bb m d]).toArray (fun w => Row w [] ba (l.map U8) ∧ Row w [] bb (k.map U8)) (.bool true) := by
  have := same02_spec ba bb n m c d l k hn hm
  rwa [decide_eq_true h] at this

/-- baize/baizelaw02.HashOf -/
theorem hashOf_walk (ba : Option Addr) (n cap : Nat) (l : List UInt8) (hn : l.length = n) (hc : n ≤ cap) (x : BitVec 64) (t : ByteArray) : Pure Try.prog 7 ([.slice ba n cap, Dig x, .string t]).toArray (fun w => Row w [] ba (l.map U8)) (.bool true) := by
  refine spec_walk (n := 34) Try.func7 rfl rfl rfl (fun w0 hpre => ?_)
  refine gc_seq ?_
  refine gc_region ?_
  refine gl_cons (gs_box rfl rfl rfl rfl (fun b4 => ?_))
  refine gl_cons (gs_val (val_assign rfl) rfl rfl rfl ?_)
  refine gl_nil ?_
  refine gk_seq ?_
  refine gc_seq ?_
  refine gc_seq ?_
  refine gc_region ?_
  refine gl_cons (gs_pure (enters kcall35 .nil) (known02_spec) rfl rfl rfl (fun _ _ => trivial) ?_)
  refine gl_cons (gs_val (val_not rfl) rfl rfl rfl ?_)
  refine gl_cons (gs_val (val_move rfl) rfl rfl rfl ?_)
  refine gl_cons (gs_val (val_move rfl) rfl rfl rfl ?_)
  refine gl_cons (gs_val (val_lenSli ksl37 rfl) rfl rfl rfl ?_)
  refine gl_cons (gs_val (val_gtr rfl rfl) rfl rfl rfl ?_)
  refine gl_cons (gs_val (val_pick_f rfl rfl) rfl rfl rfl ?_)
  refine gl_cons (gs_val (val_move rfl) rfl rfl rfl ?_)
  refine gx_split 14 rfl (fun h14 => ?_) (fun h14 => ?_)
  · skip
    refine gl_cons (gs_skip rfl rfl rfl ?_)
    refine gl_cons (gs_skip rfl rfl rfl ?_)
    refine gl_cons (gs_skip rfl rfl rfl ?_)
    refine gl_cons (gs_val (val_pick_t rfl rfl) rfl rfl rfl ?_)
    refine gl_nil ?_
    refine gk_seq ?_
    refine gc_true rfl ?_
    refine gc_seq ?_
    refine gc_region ?_
    refine gl_cons (gs_pure (enters kcall35 .nil) (known02_spec) rfl rfl rfl (fun _ _ => trivial) ?_)
    refine gl_cons (gs_val (val_assign rfl) rfl rfl rfl ?_)
    refine gl_nil ?_
    refine gk_seq ?_
    refine gc_ret ?_
    refine gk_seq_ret ?_
    refine gk_ret rfl (resv_tmp rfl .nil) (List.nil_sublist _) ?_
    exact ⟨rfl, rfl⟩
  · skip
    refine gl_cons (gs_val (val_move rfl) rfl rfl rfl ?_)
    refine gl_cons (gs_val (val_lenStr kun9 rfl) rfl rfl rfl ?_)
    refine gl_cons (gs_val (val_gtr rfl rfl) rfl rfl rfl ?_)
    refine gl_cons (gs_val (val_pick_f rfl rfl) rfl rfl rfl ?_)
    refine gl_nil ?_
    refine gk_seq ?_
    refine gc_if rfl (fun h18 => ?_) (fun h18 => ?_)
    · skip
      refine gc_seq ?_
      refine gc_region ?_
      refine gl_cons (gs_pure (enters kcall35 .nil) (known02_spec) rfl rfl rfl (fun _ _ => trivial) ?_)
      refine gl_cons (gs_val (val_assign rfl) rfl rfl rfl ?_)
      refine gl_nil ?_
      refine gk_seq ?_
      refine gc_ret ?_
      refine gk_seq_ret ?_
      refine gk_ret rfl (resv_tmp rfl .nil) (List.nil_sublist _) ?_
      exact ⟨rfl, rfl⟩
    · skip
      refine gc_skip ?_
      refine gk_seq ?_
      refine gc_seq ?_
      refine gc_drawAll kmixed (by kernel_rfl) ?_
      refine gq_val (val_move rfl) rfl rfl rfl ?_
      refine gq_pure (enters kcall51 (.cons rfl .nil)) (of_spec _ _ _ l hn (by omega) hc) rfl rfl rfl (row_of_sees (sees_row hpre)) ?_
      refine gq_val (val_move rfl) rfl rfl rfl ?_
      refine gq_pure (enters kcall52 (.cons rfl .nil)) (rof_spec _ _ _ l hn (by omega)) rfl rfl rfl (row_of_sees (sees_row hpre)) ?_
      refine gq_val (val_yes (val_eqlDig kdig22 rfl rfl rfl rfl) rfl) rfl rfl rfl ?_
      refine gq_val (val_move rfl) rfl rfl rfl ?_
      refine gq_val (val_loadA kag22 rfl (sees_mem (by repeat (first | exact .head _ | refine .tail _ ?_ | refine List.mem_append_right _ ?_))) rfl rfl) rfl rfl rfl ?_
      refine gq_val (val_move rfl) rfl rfl rfl ?_
      refine gq_pure (enters kcall53 (.cons rfl (.cons rfl .nil))) (word_spec _ t (by omega)) rfl rfl rfl (fun _ _ => trivial) ?_
      refine gq_val (val_loadA kag22 rfl (sees_mem (by repeat (first | exact .head _ | refine .tail _ ?_ | refine List.mem_append_right _ ?_))) rfl rfl) rfl rfl rfl ?_
      refine gq_val (val_move rfl) rfl rfl rfl ?_
      refine gq_pure (enters kcall54 (.cons rfl (.cons rfl .nil))) (rword_spec _ t (by omega)) rfl rfl rfl (fun _ _ => trivial) ?_
      refine gq_val (val_yes (val_eqlDig kdig22 rfl rfl rfl rfl) rfl) rfl rfl rfl ?_
      refine gq_val (val_pick_t rfl rfl) rfl rfl rfl ?_
      refine gq_val (val_assign rfl) rfl rfl rfl ?_
      refine gq_nil ?_
      refine gl_nil ?_
      refine gk_seq ?_
      refine gc_ret ?_
      refine gk_ret rfl (resv_tmp rfl .nil) (List.nil_sublist _) ?_
      exact ⟨rfl, rfl⟩

/-- baize/baizelaw02.HashPairs -/
theorem hashPairs_walk (x y : BitVec 64) (ba : Option Addr) (n cap : Nat) (l : List (BitVec 64)) (hn : l.length = n) : Pure Try.prog 6 ([Dig x, Dig y, .slice ba n cap]).toArray (fun w => Row w [] ba (l.flatMap digL)) (.bool true) := by
  subst hn
  refine spec_walk (n := 54) Try.func6 rfl rfl rfl (fun w0 hpre => ?_)
  refine gc_seq ?_
  refine gc_region ?_
  refine gl_cons (gs_box rfl rfl rfl rfl (fun b3 => ?_))
  refine gl_cons (gs_box rfl rfl rfl rfl (fun b4 => ?_))
  refine gl_cons (gs_val (val_assign rfl) rfl rfl rfl ?_)
  refine gl_nil ?_
  refine gk_seq ?_
  refine gc_seq ?_
  refine gc_seq ?_
  refine gc_region ?_
  refine gl_cons (gs_pure (enters kcall35 .nil) (known02_spec) rfl rfl rfl (fun _ _ => trivial) ?_)
  refine gl_cons (gs_val (val_not rfl) rfl rfl rfl ?_)
  refine gl_cons (gs_val (val_move rfl) rfl rfl rfl ?_)
  refine gl_cons (gs_val (val_move rfl) rfl rfl rfl ?_)
  refine gl_cons (gs_val (val_lenSli ksl42 rfl) rfl rfl rfl ?_)
  refine gl_cons (gs_val (val_gtr rfl rfl) rfl rfl rfl ?_)
  refine gl_cons (gs_val (val_pick_f rfl rfl) rfl rfl rfl ?_)
  refine gl_nil ?_
  refine gk_seq ?_
  refine gc_if rfl (fun h18 => ?_) (fun h18 => ?_)
  · skip
    refine gc_seq ?_
    refine gc_region ?_
    refine gl_cons (gs_pure (enters kcall35 .nil) (known02_spec) rfl rfl rfl (fun _ _ => trivial) ?_)
    refine gl_cons (gs_val (val_assign rfl) rfl rfl rfl ?_)
    refine gl_nil ?_
    refine gk_seq ?_
    refine gc_ret ?_
    refine gk_seq_ret ?_
    refine gk_ret rfl (resv_tmp rfl .nil) (List.nil_sublist _) ?_
    exact ⟨rfl, rfl⟩
  · skip
    refine gc_skip ?_
    refine gk_seq ?_
    refine gc_seq ?_
    refine gc_region ?_
    refine gl_cons (gs_val (val_assign rfl) rfl rfl rfl ?_)
    refine gl_nil ?_
    refine gk_seq ?_
    refine gc_seq ?_
    refine gc_seq ?_
    refine gc_region ?_
    refine gl_cons (gs_val (val_move rfl) rfl rfl rfl ?_)
    refine gl_cons (gs_val (val_lenSli ksl42 rfl) rfl rfl rfl ?_)
    refine gl_cons (gs_val (val_move rfl) rfl rfl rfl ?_)
    refine gl_nil ?_
    refine gk_seq ?_
    refine gc_block ?_
    refine gc_loop (σ := Nat × Option Addr × Nat × List Ent) (I := fun v => v.1 ≤ l.length ∧ Own 24 8 v.2.1 v.1 v.2.2.1 ((l.take v.1).flatMap digL) v.2.2.2) (μ := fun v => l.length - v.1) (EI := fun v => [(2, .slice ba l.length cap), (3, .pointer (some ⟨b3, 0, none⟩)), (4, .pointer (some ⟨b4, 0, none⟩)), (7, .slice v.2.1 v.1 v.2.2.1), (20, .slice ba l.length cap), (21, I64 (l.length : Int)), (22, I64 (v.1 : Int))]) (LI := fun v => ⟨b4, .cells (digL y).toArray 22 (0, 0)⟩ :: ⟨b3, .cells (digL x).toArray 22 (0, 0)⟩ :: v.2.2.2) (0, none, 0, []) ?_ ?_ ?_ ?_
    · exact ⟨Nat.zero_le _, .nil⟩
    · exact (.cons rfl (.cons rfl (.cons rfl (.cons rfl (.cons rfl (.cons rfl (.cons rfl .nil)))))))
    · exact fun _ h => h
    · intro ⟨k, ba', c', N⟩ ⟨hkl, hown⟩
      dsimp only
      have hkl : k ≤ l.length := hkl
      have hown : Own 24 8 ba' k c' ((l.take k).flatMap digL) N := hown
      refine gc_seq ?_
      refine gc_region ?_
      refine gl_cons (gs_val (val_lss rfl rfl) rfl rfl rfl ?_)
      refine gl_nil ?_
      refine gk_seq ?_
      refine gc_seq ?_
      refine gc_if rfl (fun hk => ?_) (fun hk => ?_)
      · have hk : k < l.length := by omega
        refine gc_skip ?_
        refine gk_seq ?_
        refine gc_seq ?_
        refine gc_block ?_
        refine gc_seq ?_
        refine gc_region ?_
        refine gl_cons (gs_val (val_indexSli ksl42 rfl rfl rfl (by omega) (sees_row hpre) (by (try simp only [List.length_map, Nat.mul_one, dig_len, inc_len]); omega)) rfl rfl rfl ?_)
        refine gl_cons (gs_val (val_loadA kag22 rfl ((sees_row hpre).elem8 hk) rfl rfl) rfl rfl rfl ?_)
        refine gl_cons (gs_alloc kze22 rfl rfl rfl (fun b9 => ?_))
        refine gl_cons (gs_store ksz22 rfl rfl rfl rfl rfl rfl (by first | exact .head | exact .tail .head | exact .tail (.tail .head) | exact .tail (.tail (.tail .head)) | exact .tail (.tail (.tail (.tail .head))) | exact .tail (.tail (.tail (.tail (.tail .head))))) (by simp) (by first | ((with_reducible refine splice_all _ _ ?_); simp; done) | (simp only [splice, stL, digL, List.take_succ_cons, List.take_zero, List.drop_succ_cons, List.drop_zero, List.length_cons, List.length_nil, Nat.reduceAdd, Nat.reduceMul, Nat.zero_add, Nat.zero_mul, List.cons_append, List.nil_append]; exact rfl)) ?_)
        refine gl_nil ?_
        refine gk_seq ?_
        refine gc_region ?_
        refine gl_cons (gs_val (val_move rfl) rfl rfl rfl ?_)
        refine gl_cons (gs_val (val_loadA kag22 rfl (sees_mem (by repeat (first | exact .head _ | refine .tail _ ?_ | refine List.mem_append_right _ ?_))) rfl rfl) rfl rfl rfl ?_)
        refine gl_cons (gs_buildSlice (zs := [.int .u8 0, .int .u8 0, .int .u8 0, .int .u8 0, .int .u8 0, .int .u8 0, .int .u8 0, .int .u8 0]) ksl43 kze24 rfl rfl (.cons rfl .nil) (.cons rfl rfl rfl (by simp) (by first | ((with_reducible refine splice_all _ _ ?_); simp; done) | (simp only [splice, stL, digL, List.take_succ_cons, List.take_zero, List.drop_succ_cons, List.drop_zero, List.length_cons, List.length_nil, Nat.reduceAdd, Nat.reduceMul, Nat.zero_add, Nat.zero_mul, List.cons_append, List.nil_append]; exact rfl)) .nil) rfl rfl (fun b28 => ?_))
        refine gl_cons (gs_append ksl43 kze24 rfl rfl rfl rfl rfl rfl (hown) (fun _ => by first | exact .here | exact .headR | exact .app | exact .tail .here | exact .tail .headR | exact .tail .app | exact .tail (.tail .here) | exact .tail (.tail .headR) | exact .tail (.tail .app) | exact .tail (.tail (.tail .here)) | exact .tail (.tail (.tail .headR)) | exact .tail (.tail (.tail .app)) | exact .tail (.tail (.tail (.tail .here))) | exact .tail (.tail (.tail (.tail .headR))) | exact .tail (.tail (.tail (.tail .app))) | exact .tail (.tail (.tail (.tail (.tail .here)))) | exact .tail (.tail (.tail (.tail (.tail .headR)))) | exact .tail (.tail (.tail (.tail (.tail .app)))) | exact .appr .here | exact .appr .headR | exact .appr .app | exact .tail (.appr .here) | exact .tail (.appr .headR) | exact .tail (.appr .app) | exact .tail (.tail (.appr .here)) | exact .tail (.tail (.appr .headR)) | exact .tail (.tail (.appr .app)) | exact .appr (.tail .here) | exact .appr (.tail .headR) | exact .appr (.tail .app) | exact .appr (.tail (.tail .here)) | exact .appr (.tail (.tail .headR)) | exact .appr (.tail (.tail .app)) | exact .appr (.appr .here) | exact .appr (.appr .headR) | exact .appr (.appr .app) | exact .tail (.appr (.appr .here)) | exact .tail (.appr (.appr .headR)) | exact .tail (.appr (.appr .app)) | exact .appr (.appr (.tail .here)) | exact .appr (.appr (.tail .headR)) | exact .appr (.appr (.tail .app)) | exact .appr (.appr (.appr .here)) | exact .appr (.appr (.appr .headR)) | exact .appr (.appr (.appr .app))) (brings_slice ksl43 (sees_all (by repeat (first | exact .head _ | refine .tail _ ?_ | refine List.mem_append_right _ ?_))) rfl (one_dig _)) (by omega) (fun ba29 c29 N29 hown29 => ?_))
        refine gl_cons (gs_val (val_assign rfl) rfl rfl rfl ?_)
        refine gl_nil ?_
        refine gk_block ?_
        refine gk_seq ?_
        refine gc_region ?_
        refine gl_cons (gs_val (val_addI rfl rfl (by omega)) rfl rfl rfl ?_)
        refine gl_cons (gs_val (val_move rfl) rfl rfl rfl ?_)
        refine gl_nil ?_
        refine gk_again (k + 1, ba29, c29, N29) ?_ ?_ ?_ ?_
        · exact ⟨by show k + 1 ≤ l.length; omega, by show Own 24 8 ba29 (k + 1) c29 ((l.take (k + 1)).flatMap digL) N29; rw [flat_snoc digL l k hk]; exact hown29⟩
        · show l.length - (k + 1) < l.length - k; omega
        · exact (.cons (rfl) (.cons (rfl) (.cons (rfl) (.cons (rfl) (.cons (rfl) (.cons (rfl) (.cons (rfl) .nil)))))))
        · exact fun _ h => h.sub (List.Sublist.cons _ (List.sublist_cons_self _ _))
      · have e : k = l.length := by omega
        subst e
        rw [List.take_length] at hown
        refine gc_exit ?_
        refine gk_seq_exit ?_
        refine gk_loop_exit ?_
        refine gk_block_exit ?_
        refine gk_seq ?_
        refine gc_seq ?_
        refine ga_start (m := 6) (ls := [false, false, false, false, false, false]) kmixed rfl rfl ?_
        apply share2 (α := Nat) (β := Nat) (m' := 1) (ls' := [true, true, true, true, true, false])
        · intro hD0
          apply share2 (α := Nat) (β := Nat) (m' := 2) (ls' := [true, true, true, true, false, false])
          · intro hD1
            apply share1 (α := Nat) (m' := 3) (ls' := [true, true, true, false, false, false])
            · intro hD2
              apply share1 (α := Nat) (m' := 3) (ls' := [true, true, false, true, false, false])
              · intro hD3
                apply share2 (α := Nat) (β := Nat) (m' := 3) (ls' := [true, false, true, true, false, false])
                · intro hD4
                  apply share2 (α := Nat) (β := Nat) (m' := 3) (ls' := [false, true, true, true, false, false])
                  · intro hD5
                    apply share0  (m' := 4) (ls' := [true, true, false, false, false, false])
                    · intro hD6
                      apply share1 (α := Nat) (m' := 4) (ls' := [true, false, true, false, false, false])
                      · intro hD7
                        apply share1 (α := Nat) (m' := 4) (ls' := [true, false, false, true, false, false])
                        · intro hD8
                          apply share1 (α := Nat) (m' := 4) (ls' := [false, true, true, false, false, false])
                          · intro hD9
                            apply share1 (α := Nat) (m' := 4) (ls' := [false, true, false, true, false, false])
                            · intro hD10
                              apply share2 (α := Nat) (β := Nat) (m' := 4) (ls' := [false, false, true, true, false, false])
                              · intro hD11
                                refine ga_branch (rs := [0, 1, 2, 3]) (by kernel_rfl) rfl (.cons (ls' := [true, false, false, false, false, false]) rfl rfl ?_ (.cons (ls' := [false, true, false, false, false, false]) rfl rfl ?_ (.cons (ls' := [false, false, true, false, false, false]) rfl rfl ?_ (.cons (ls' := [false, false, false, true, false, false]) rfl rfl ?_ .nil))))
                                · skip
                                  refine gs_val (val_loadA kag22 rfl (sees_mem (by repeat (first | exact .head _ | refine .tail _ ?_ | refine List.mem_append_right _ ?_))) rfl rfl) rfl rfl rfl ?_
                                  refine ga_branch (rs := [1, 2, 3]) (by kernel_rfl) rfl (.cons (ls' := [true, true, false, false, false, false]) rfl rfl ?_ (.cons (ls' := [true, false, true, false, false, false]) rfl rfl ?_ (.cons (ls' := [true, false, false, true, false, false]) rfl rfl ?_ .nil)))
                                  · skip
                                    refine gs_val (val_loadA kag22 rfl (sees_mem (by repeat (first | exact .head _ | refine .tail _ ?_ | refine List.mem_append_right _ ?_))) rfl rfl) rfl rfl rfl ?_
                                    refine gx_env (F := [(2, _), (3, _), (4, _), (7, _), (20, _), (21, _), (22, _), (23, _), (31, _), (32, _)]) (.cons rfl (.cons rfl (.cons rfl (.cons rfl (.cons rfl (.cons rfl (.cons rfl (.cons rfl (.cons rfl (.cons rfl .nil)))))))))) (gx_perm (by first | exact .refl _ | (repeat (first | exact .refl _ | refine perm_take (by first | exact .head | exact .tail .head | exact .tail (.tail .head) | exact .tail (.tail (.tail .head)) | exact .tail (.tail (.tail (.tail .head))) | exact .tail (.tail (.tail (.tail (.tail .head))))) ?_))) (hD6  True.intro))
                                  · skip
                                    refine gs_alloc kze24 rfl rfl rfl (fun b10 => ?_)
                                    refine gx_env (F := [(2, _), (3, _), (4, _), (7, _), (10, _), (20, _), (21, _), (22, _), (23, _), (31, _)]) (.cons rfl (.cons rfl (.cons rfl (.cons rfl (.cons rfl (.cons rfl (.cons rfl (.cons rfl (.cons rfl (.cons rfl .nil)))))))))) (gx_perm (by first | exact .refl _ | (repeat (first | exact .refl _ | refine perm_take (by first | exact .head | exact .tail .head | exact .tail (.tail .head) | exact .tail (.tail (.tail .head)) | exact .tail (.tail (.tail (.tail .head))) | exact .tail (.tail (.tail (.tail (.tail .head))))) ?_))) (hD7 b10 True.intro))
                                  · skip
                                    refine gs_alloc kze24 rfl rfl rfl (fun b11 => ?_)
                                    refine gx_env (F := [(2, _), (3, _), (4, _), (7, _), (11, _), (20, _), (21, _), (22, _), (23, _), (31, _)]) (.cons rfl (.cons rfl (.cons rfl (.cons rfl (.cons rfl (.cons rfl (.cons rfl (.cons rfl (.cons rfl (.cons rfl .nil)))))))))) (gx_perm (by first | exact .refl _ | (repeat (first | exact .refl _ | refine perm_take (by first | exact .head | exact .tail .head | exact .tail (.tail .head) | exact .tail (.tail (.tail .head)) | exact .tail (.tail (.tail (.tail .head))) | exact .tail (.tail (.tail (.tail (.tail .head))))) ?_))) (hD8 b11 True.intro))
                                · skip
                                  refine gs_val (val_loadA kag22 rfl (sees_mem (by repeat (first | exact .head _ | refine .tail _ ?_ | refine List.mem_append_right _ ?_))) rfl rfl) rfl rfl rfl ?_
                                  refine ga_branch (rs := [0, 2, 3]) (by kernel_rfl) rfl (.cons (ls' := [true, true, false, false, false, false]) rfl rfl ?_ (.cons (ls' := [false, true, true, false, false, false]) rfl rfl ?_ (.cons (ls' := [false, true, false, true, false, false]) rfl rfl ?_ .nil)))
                                  · skip
                                    refine gs_val (val_loadA kag22 rfl (sees_mem (by repeat (first | exact .head _ | refine .tail _ ?_ | refine List.mem_append_right _ ?_))) rfl rfl) rfl rfl rfl ?_
                                    refine gx_env (F := [(2, _), (3, _), (4, _), (7, _), (20, _), (21, _), (22, _), (23, _), (31, _), (32, _)]) (.cons rfl (.cons rfl (.cons rfl (.cons rfl (.cons rfl (.cons rfl (.cons rfl (.cons rfl (.cons rfl (.cons rfl .nil)))))))))) (gx_perm (by first | exact .refl _ | (repeat (first | exact .refl _ | refine perm_take (by first | exact .head | exact .tail .head | exact .tail (.tail .head) | exact .tail (.tail (.tail .head)) | exact .tail (.tail (.tail (.tail .head))) | exact .tail (.tail (.tail (.tail (.tail .head))))) ?_))) (hD6  True.intro))
                                  · skip
                                    refine gs_alloc kze24 rfl rfl rfl (fun b10 => ?_)
                                    refine gx_env (F := [(2, _), (3, _), (4, _), (7, _), (10, _), (20, _), (21, _), (22, _), (23, _), (32, _)]) (.cons rfl (.cons rfl (.cons rfl (.cons rfl (.cons rfl (.cons rfl (.cons rfl (.cons rfl (.cons rfl (.cons rfl .nil)))))))))) (gx_perm (by first | exact .refl _ | (repeat (first | exact .refl _ | refine perm_take (by first | exact .head | exact .tail .head | exact .tail (.tail .head) | exact .tail (.tail (.tail .head)) | exact .tail (.tail (.tail (.tail .head))) | exact .tail (.tail (.tail (.tail (.tail .head))))) ?_))) (hD9 b10 True.intro))
                                  · skip
                                    refine gs_alloc kze24 rfl rfl rfl (fun b11 => ?_)
                                    refine gx_env (F := [(2, _), (3, _), (4, _), (7, _), (11, _), (20, _), (21, _), (22, _), (23, _), (32, _)]) (.cons rfl (.cons rfl (.cons rfl (.cons rfl (.cons rfl (.cons rfl (.cons rfl (.cons rfl (.cons rfl (.cons rfl .nil)))))))))) (gx_perm (by first | exact .refl _ | (repeat (first | exact .refl _ | refine perm_take (by first | exact .head | exact .tail .head | exact .tail (.tail .head) | exact .tail (.tail (.tail .head)) | exact .tail (.tail (.tail (.tail .head))) | exact .tail (.tail (.tail (.tail (.tail .head))))) ?_))) (hD10 b11 True.intro))
                                · skip
                                  refine gs_alloc kze24 rfl rfl rfl (fun b10 => ?_)
                                  refine ga_branch (rs := [0, 1, 3]) (by kernel_rfl) rfl (.cons (ls' := [true, false, true, false, false, false]) rfl rfl ?_ (.cons (ls' := [false, true, true, false, false, false]) rfl rfl ?_ (.cons (ls' := [false, false, true, true, false, false]) rfl rfl ?_ .nil)))
                                  · skip
                                    refine gs_val (val_loadA kag22 rfl (sees_mem (by repeat (first | exact .head _ | refine .tail _ ?_ | refine List.mem_append_right _ ?_))) rfl rfl) rfl rfl rfl ?_
                                    refine gx_env (F := [(2, _), (3, _), (4, _), (7, _), (10, _), (20, _), (21, _), (22, _), (23, _), (31, _)]) (.cons rfl (.cons rfl (.cons rfl (.cons rfl (.cons rfl (.cons rfl (.cons rfl (.cons rfl (.cons rfl (.cons rfl .nil)))))))))) (gx_perm (by first | exact .refl _ | (repeat (first | exact .refl _ | refine perm_take (by first | exact .head | exact .tail .head | exact .tail (.tail .head) | exact .tail (.tail (.tail .head)) | exact .tail (.tail (.tail (.tail .head))) | exact .tail (.tail (.tail (.tail (.tail .head))))) ?_))) (hD7 b10 True.intro))
                                  · skip
                                    refine gs_val (val_loadA kag22 rfl (sees_mem (by repeat (first | exact .head _ | refine .tail _ ?_ | refine List.mem_append_right _ ?_))) rfl rfl) rfl rfl rfl ?_
                                    refine gx_env (F := [(2, _), (3, _), (4, _), (7, _), (10, _), (20, _), (21, _), (22, _), (23, _), (32, _)]) (.cons rfl (.cons rfl (.cons rfl (.cons rfl (.cons rfl (.cons rfl (.cons rfl (.cons rfl (.cons rfl (.cons rfl .nil)))))))))) (gx_perm (by first | exact .refl _ | (repeat (first | exact .refl _ | refine perm_take (by first | exact .head | exact .tail .head | exact .tail (.tail .head) | exact .tail (.tail (.tail .head)) | exact .tail (.tail (.tail (.tail .head))) | exact .tail (.tail (.tail (.tail (.tail .head))))) ?_))) (hD9 b10 True.intro))
                                  · skip
                                    refine gs_alloc kze24 rfl rfl rfl (fun b11 => ?_)
                                    refine gx_env (F := [(2, _), (3, _), (4, _), (7, _), (10, _), (11, _), (20, _), (21, _), (22, _), (23, _)]) (.cons rfl (.cons rfl (.cons rfl (.cons rfl (.cons rfl (.cons rfl (.cons rfl (.cons rfl (.cons rfl (.cons rfl .nil)))))))))) (gx_perm (by first | exact .refl _ | (repeat (first | exact .refl _ | refine perm_take (by first | exact .head | exact .tail .head | exact .tail (.tail .head) | exact .tail (.tail (.tail .head)) | exact .tail (.tail (.tail (.tail .head))) | exact .tail (.tail (.tail (.tail (.tail .head))))) ?_))) (hD11 b10 b11 True.intro))
                                · skip
                                  refine gs_alloc kze24 rfl rfl rfl (fun b11 => ?_)
                                  refine ga_branch (rs := [0, 1, 2]) (by kernel_rfl) rfl (.cons (ls' := [true, false, false, true, false, false]) rfl rfl ?_ (.cons (ls' := [false, true, false, true, false, false]) rfl rfl ?_ (.cons (ls' := [false, false, true, true, false, false]) rfl rfl ?_ .nil)))
                                  · skip
                                    refine gs_val (val_loadA kag22 rfl (sees_mem (by repeat (first | exact .head _ | refine .tail _ ?_ | refine List.mem_append_right _ ?_))) rfl rfl) rfl rfl rfl ?_
                                    refine gx_env (F := [(2, _), (3, _), (4, _), (7, _), (11, _), (20, _), (21, _), (22, _), (23, _), (31, _)]) (.cons rfl (.cons rfl (.cons rfl (.cons rfl (.cons rfl (.cons rfl (.cons rfl (.cons rfl (.cons rfl (.cons rfl .nil)))))))))) (gx_perm (by first | exact .refl _ | (repeat (first | exact .refl _ | refine perm_take (by first | exact .head | exact .tail .head | exact .tail (.tail .head) | exact .tail (.tail (.tail .head)) | exact .tail (.tail (.tail (.tail .head))) | exact .tail (.tail (.tail (.tail (.tail .head))))) ?_))) (hD8 b11 True.intro))
                                  · skip
                                    refine gs_val (val_loadA kag22 rfl (sees_mem (by repeat (first | exact .head _ | refine .tail _ ?_ | refine List.mem_append_right _ ?_))) rfl rfl) rfl rfl rfl ?_
                                    refine gx_env (F := [(2, _), (3, _), (4, _), (7, _), (11, _), (20, _), (21, _), (22, _), (23, _), (32, _)]) (.cons rfl (.cons rfl (.cons rfl (.cons rfl (.cons rfl (.cons rfl (.cons rfl (.cons rfl (.cons rfl (.cons rfl .nil)))))))))) (gx_perm (by first | exact .refl _ | (repeat (first | exact .refl _ | refine perm_take (by first | exact .head | exact .tail .head | exact .tail (.tail .head) | exact .tail (.tail (.tail .head)) | exact .tail (.tail (.tail (.tail .head))) | exact .tail (.tail (.tail (.tail (.tail .head))))) ?_))) (hD10 b11 True.intro))
                                  · skip
                                    refine gs_alloc kze24 rfl rfl rfl (fun b10 => ?_)
                                    refine gx_env (F := [(2, _), (3, _), (4, _), (7, _), (10, _), (11, _), (20, _), (21, _), (22, _), (23, _)]) (.cons rfl (.cons rfl (.cons rfl (.cons rfl (.cons rfl (.cons rfl (.cons rfl (.cons rfl (.cons rfl (.cons rfl .nil)))))))))) (gx_perm (by first | exact .refl _ | (repeat (first | exact .refl _ | refine perm_take (by first | exact .head | exact .tail .head | exact .tail (.tail .head) | exact .tail (.tail (.tail .head)) | exact .tail (.tail (.tail (.tail .head))) | exact .tail (.tail (.tail (.tail (.tail .head))))) ?_))) (hD11 b10 b11 True.intro))
                              · rintro b10 b11 _
                                refine ga_branch (rs := [0, 1]) (by kernel_rfl) rfl (.cons (ls' := [true, false, true, true, false, false]) rfl rfl ?_ (.cons (ls' := [false, true, true, true, false, false]) rfl rfl ?_ .nil))
                                · skip
                                  refine gs_val (val_loadA kag22 rfl (sees_mem (by repeat (first | exact .head _ | refine .tail _ ?_ | refine List.mem_append_right _ ?_))) rfl rfl) rfl rfl rfl ?_
                                  refine gx_env (F := [(2, _), (3, _), (4, _), (7, _), (10, _), (11, _), (20, _), (21, _), (22, _), (23, _), (31, _)]) (.cons rfl (.cons rfl (.cons rfl (.cons rfl (.cons rfl (.cons rfl (.cons rfl (.cons rfl (.cons rfl (.cons rfl (.cons rfl .nil))))))))))) (gx_perm (by first | exact .refl _ | (repeat (first | exact .refl _ | refine perm_take (by first | exact .head | exact .tail .head | exact .tail (.tail .head) | exact .tail (.tail (.tail .head)) | exact .tail (.tail (.tail (.tail .head))) | exact .tail (.tail (.tail (.tail (.tail .head))))) ?_))) (hD4 b10 b11 True.intro))
                                · skip
                                  refine gs_val (val_loadA kag22 rfl (sees_mem (by repeat (first | exact .head _ | refine .tail _ ?_ | refine List.mem_append_right _ ?_))) rfl rfl) rfl rfl rfl ?_
                                  refine gx_env (F := [(2, _), (3, _), (4, _), (7, _), (10, _), (11, _), (20, _), (21, _), (22, _), (23, _), (32, _)]) (.cons rfl (.cons rfl (.cons rfl (.cons rfl (.cons rfl (.cons rfl (.cons rfl (.cons rfl (.cons rfl (.cons rfl (.cons rfl .nil))))))))))) (gx_perm (by first | exact .refl _ | (repeat (first | exact .refl _ | refine perm_take (by first | exact .head | exact .tail .head | exact .tail (.tail .head) | exact .tail (.tail (.tail .head)) | exact .tail (.tail (.tail (.tail .head))) | exact .tail (.tail (.tail (.tail (.tail .head))))) ?_))) (hD5 b10 b11 True.intro))
                            · rintro b11 _
                              refine ga_branch (rs := [0, 2]) (by kernel_rfl) rfl (.cons (ls' := [true, true, false, true, false, false]) rfl rfl ?_ (.cons (ls' := [false, true, true, true, false, false]) rfl rfl ?_ .nil))
                              · skip
                                refine gs_val (val_loadA kag22 rfl (sees_mem (by repeat (first | exact .head _ | refine .tail _ ?_ | refine List.mem_append_right _ ?_))) rfl rfl) rfl rfl rfl ?_
                                refine gx_env (F := [(2, _), (3, _), (4, _), (7, _), (11, _), (20, _), (21, _), (22, _), (23, _), (31, _), (32, _)]) (.cons rfl (.cons rfl (.cons rfl (.cons rfl (.cons rfl (.cons rfl (.cons rfl (.cons rfl (.cons rfl (.cons rfl (.cons rfl .nil))))))))))) (gx_perm (by first | exact .refl _ | (repeat (first | exact .refl _ | refine perm_take (by first | exact .head | exact .tail .head | exact .tail (.tail .head) | exact .tail (.tail (.tail .head)) | exact .tail (.tail (.tail (.tail .head))) | exact .tail (.tail (.tail (.tail (.tail .head))))) ?_))) (hD3 b11 True.intro))
                              · skip
                                refine gs_alloc kze24 rfl rfl rfl (fun b10 => ?_)
                                refine gx_env (F := [(2, _), (3, _), (4, _), (7, _), (10, _), (11, _), (20, _), (21, _), (22, _), (23, _), (32, _)]) (.cons rfl (.cons rfl (.cons rfl (.cons rfl (.cons rfl (.cons rfl (.cons rfl (.cons rfl (.cons rfl (.cons rfl (.cons rfl .nil))))))))))) (gx_perm (by first | exact .refl _ | (repeat (first | exact .refl _ | refine perm_take (by first | exact .head | exact .tail .head | exact .tail (.tail .head) | exact .tail (.tail (.tail .head)) | exact .tail (.tail (.tail (.tail .head))) | exact .tail (.tail (.tail (.tail (.tail .head))))) ?_))) (hD5 b10 b11 True.intro))
                          · rintro b10 _
                            refine ga_branch (rs := [0, 3]) (by kernel_rfl) rfl (.cons (ls' := [true, true, true, false, false, false]) rfl rfl ?_ (.cons (ls' := [false, true, true, true, false, false]) rfl rfl ?_ .nil))
                            · skip
                              refine gs_val (val_loadA kag22 rfl (sees_mem (by repeat (first | exact .head _ | refine .tail _ ?_ | refine List.mem_append_right _ ?_))) rfl rfl) rfl rfl rfl ?_
                              refine gx_env (F := [(2, _), (3, _), (4, _), (7, _), (10, _), (20, _), (21, _), (22, _), (23, _), (31, _), (32, _)]) (.cons rfl (.cons rfl (.cons rfl (.cons rfl (.cons rfl (.cons rfl (.cons rfl (.cons rfl (.cons rfl (.cons rfl (.cons rfl .nil))))))))))) (gx_perm (by first | exact .refl _ | (repeat (first | exact .refl _ | refine perm_take (by first | exact .head | exact .tail .head | exact .tail (.tail .head) | exact .tail (.tail (.tail .head)) | exact .tail (.tail (.tail (.tail .head))) | exact .tail (.tail (.tail (.tail (.tail .head))))) ?_))) (hD2 b10 True.intro))
                            · skip
                              refine gs_alloc kze24 rfl rfl rfl (fun b11 => ?_)
                              refine gx_env (F := [(2, _), (3, _), (4, _), (7, _), (10, _), (11, _), (20, _), (21, _), (22, _), (23, _), (32, _)]) (.cons rfl (.cons rfl (.cons rfl (.cons rfl (.cons rfl (.cons rfl (.cons rfl (.cons rfl (.cons rfl (.cons rfl (.cons rfl .nil))))))))))) (gx_perm (by first | exact .refl _ | (repeat (first | exact .refl _ | refine perm_take (by first | exact .head | exact .tail .head | exact .tail (.tail .head) | exact .tail (.tail (.tail .head)) | exact .tail (.tail (.tail (.tail .head))) | exact .tail (.tail (.tail (.tail (.tail .head))))) ?_))) (hD5 b10 b11 True.intro))
                        · rintro b11 _
                          refine ga_branch (rs := [1, 2]) (by kernel_rfl) rfl (.cons (ls' := [true, true, false, true, false, false]) rfl rfl ?_ (.cons (ls' := [true, false, true, true, false, false]) rfl rfl ?_ .nil))
                          · skip
                            refine gs_val (val_loadA kag22 rfl (sees_mem (by repeat (first | exact .head _ | refine .tail _ ?_ | refine List.mem_append_right _ ?_))) rfl rfl) rfl rfl rfl ?_
                            refine gx_env (F := [(2, _), (3, _), (4, _), (7, _), (11, _), (20, _), (21, _), (22, _), (23, _), (31, _), (32, _)]) (.cons rfl (.cons rfl (.cons rfl (.cons rfl (.cons rfl (.cons rfl (.cons rfl (.cons rfl (.cons rfl (.cons rfl (.cons rfl .nil))))))))))) (gx_perm (by first | exact .refl _ | (repeat (first | exact .refl _ | refine perm_take (by first | exact .head | exact .tail .head | exact .tail (.tail .head) | exact .tail (.tail (.tail .head)) | exact .tail (.tail (.tail (.tail .head))) | exact .tail (.tail (.tail (.tail (.tail .head))))) ?_))) (hD3 b11 True.intro))
                          · skip
                            refine gs_alloc kze24 rfl rfl rfl (fun b10 => ?_)
                            refine gx_env (F := [(2, _), (3, _), (4, _), (7, _), (10, _), (11, _), (20, _), (21, _), (22, _), (23, _), (31, _)]) (.cons rfl (.cons rfl (.cons rfl (.cons rfl (.cons rfl (.cons rfl (.cons rfl (.cons rfl (.cons rfl (.cons rfl (.cons rfl .nil))))))))))) (gx_perm (by first | exact .refl _ | (repeat (first | exact .refl _ | refine perm_take (by first | exact .head | exact .tail .head | exact .tail (.tail .head) | exact .tail (.tail (.tail .head)) | exact .tail (.tail (.tail (.tail .head))) | exact .tail (.tail (.tail (.tail (.tail .head))))) ?_))) (hD4 b10 b11 True.intro))
                      · rintro b10 _
                        refine ga_branch (rs := [1, 3]) (by kernel_rfl) rfl (.cons (ls' := [true, true, true, false, false, false]) rfl rfl ?_ (.cons (ls' := [true, false, true, true, false, false]) rfl rfl ?_ .nil))
                        · skip
                          refine gs_val (val_loadA kag22 rfl (sees_mem (by repeat (first | exact .head _ | refine .tail _ ?_ | refine List.mem_append_right _ ?_))) rfl rfl) rfl rfl rfl ?_
                          refine gx_env (F := [(2, _), (3, _), (4, _), (7, _), (10, _), (20, _), (21, _), (22, _), (23, _), (31, _), (32, _)]) (.cons rfl (.cons rfl (.cons rfl (.cons rfl (.cons rfl (.cons rfl (.cons rfl (.cons rfl (.cons rfl (.cons rfl (.cons rfl .nil))))))))))) (gx_perm (by first | exact .refl _ | (repeat (first | exact .refl _ | refine perm_take (by first | exact .head | exact .tail .head | exact .tail (.tail .head) | exact .tail (.tail (.tail .head)) | exact .tail (.tail (.tail (.tail .head))) | exact .tail (.tail (.tail (.tail (.tail .head))))) ?_))) (hD2 b10 True.intro))
                        · skip
                          refine gs_alloc kze24 rfl rfl rfl (fun b11 => ?_)
                          refine gx_env (F := [(2, _), (3, _), (4, _), (7, _), (10, _), (11, _), (20, _), (21, _), (22, _), (23, _), (31, _)]) (.cons rfl (.cons rfl (.cons rfl (.cons rfl (.cons rfl (.cons rfl (.cons rfl (.cons rfl (.cons rfl (.cons rfl (.cons rfl .nil))))))))))) (gx_perm (by first | exact .refl _ | (repeat (first | exact .refl _ | refine perm_take (by first | exact .head | exact .tail .head | exact .tail (.tail .head) | exact .tail (.tail (.tail .head)) | exact .tail (.tail (.tail (.tail .head))) | exact .tail (.tail (.tail (.tail (.tail .head))))) ?_))) (hD4 b10 b11 True.intro))
                    · rintro  _
                      refine ga_branch (rs := [2, 3]) (by kernel_rfl) rfl (.cons (ls' := [true, true, true, false, false, false]) rfl rfl ?_ (.cons (ls' := [true, true, false, true, false, false]) rfl rfl ?_ .nil))
                      · skip
                        refine gs_alloc kze24 rfl rfl rfl (fun b10 => ?_)
                        refine gx_env (F := [(2, _), (3, _), (4, _), (7, _), (10, _), (20, _), (21, _), (22, _), (23, _), (31, _), (32, _)]) (.cons rfl (.cons rfl (.cons rfl (.cons rfl (.cons rfl (.cons rfl (.cons rfl (.cons rfl (.cons rfl (.cons rfl (.cons rfl .nil))))))))))) (gx_perm (by first | exact .refl _ | (repeat (first | exact .refl _ | refine perm_take (by first | exact .head | exact .tail .head | exact .tail (.tail .head) | exact .tail (.tail (.tail .head)) | exact .tail (.tail (.tail (.tail .head))) | exact .tail (.tail (.tail (.tail (.tail .head))))) ?_))) (hD2 b10 True.intro))
                      · skip
                        refine gs_alloc kze24 rfl rfl rfl (fun b11 => ?_)
                        refine gx_env (F := [(2, _), (3, _), (4, _), (7, _), (11, _), (20, _), (21, _), (22, _), (23, _), (31, _), (32, _)]) (.cons rfl (.cons rfl (.cons rfl (.cons rfl (.cons rfl (.cons rfl (.cons rfl (.cons rfl (.cons rfl (.cons rfl (.cons rfl .nil))))))))))) (gx_perm (by first | exact .refl _ | (repeat (first | exact .refl _ | refine perm_take (by first | exact .head | exact .tail .head | exact .tail (.tail .head) | exact .tail (.tail (.tail .head)) | exact .tail (.tail (.tail (.tail .head))) | exact .tail (.tail (.tail (.tail (.tail .head))))) ?_))) (hD3 b11 True.intro))
                  · rintro b10 b11 _
                    refine ga_branch (rs := [0]) (by kernel_rfl) rfl (.cons (ls' := [true, true, true, true, false, false]) rfl rfl ?_ .nil)
                    refine gs_val (val_loadA kag22 rfl (sees_mem (by repeat (first | exact .head _ | refine .tail _ ?_ | refine List.mem_append_right _ ?_))) rfl rfl) rfl rfl rfl ?_
                    refine gx_env (F := [(2, _), (3, _), (4, _), (7, _), (10, _), (11, _), (20, _), (21, _), (22, _), (23, _), (31, _), (32, _)]) (.cons rfl (.cons rfl (.cons rfl (.cons rfl (.cons rfl (.cons rfl (.cons rfl (.cons rfl (.cons rfl (.cons rfl (.cons rfl (.cons rfl .nil)))))))))))) (gx_perm (by first | exact .refl _ | (repeat (first | exact .refl _ | refine perm_take (by first | exact .head | exact .tail .head | exact .tail (.tail .head) | exact .tail (.tail (.tail .head)) | exact .tail (.tail (.tail (.tail .head))) | exact .tail (.tail (.tail (.tail (.tail .head))))) ?_))) (hD1 b10 b11 True.intro))
                · rintro b10 b11 _
                  refine ga_branch (rs := [1, 4]) (by kernel_rfl) rfl (.cons (ls' := [true, true, true, true, false, false]) rfl rfl ?_ (.cons (ls' := [true, false, true, true, true, false]) rfl rfl ?_ .nil))
                  · skip
                    refine gs_val (val_loadA kag22 rfl (sees_mem (by repeat (first | exact .head _ | refine .tail _ ?_ | refine List.mem_append_right _ ?_))) rfl rfl) rfl rfl rfl ?_
                    refine gx_env (F := [(2, _), (3, _), (4, _), (7, _), (10, _), (11, _), (20, _), (21, _), (22, _), (23, _), (31, _), (32, _)]) (.cons rfl (.cons rfl (.cons rfl (.cons rfl (.cons rfl (.cons rfl (.cons rfl (.cons rfl (.cons rfl (.cons rfl (.cons rfl (.cons rfl .nil)))))))))))) (gx_perm (by first | exact .refl _ | (repeat (first | exact .refl _ | refine perm_take (by first | exact .head | exact .tail .head | exact .tail (.tail .head) | exact .tail (.tail (.tail .head)) | exact .tail (.tail (.tail (.tail .head))) | exact .tail (.tail (.tail (.tail (.tail .head))))) ?_))) (hD1 b10 b11 True.intro))
                  · skip
                    refine gs_store ksz24 rfl rfl rfl rfl rfl rfl (by first | exact .head | exact .tail .head | exact .tail (.tail .head) | exact .tail (.tail (.tail .head)) | exact .tail (.tail (.tail (.tail .head))) | exact .tail (.tail (.tail (.tail (.tail .head))))) (by simp) (by first | ((with_reducible refine splice_all _ _ ?_); simp; done) | (simp only [splice, stL, digL, List.take_succ_cons, List.take_zero, List.drop_succ_cons, List.drop_zero, List.length_cons, List.length_nil, Nat.reduceAdd, Nat.reduceMul, Nat.zero_add, Nat.zero_mul, List.cons_append, List.nil_append]; exact rfl)) ?_
                    refine ga_branch (rs := [1]) (by kernel_rfl) rfl (.cons (ls' := [true, true, true, true, true, false]) rfl rfl ?_ .nil)
                    refine gs_val (val_loadA kag22 rfl (sees_mem (by repeat (first | exact .head _ | refine .tail _ ?_ | refine List.mem_append_right _ ?_))) rfl rfl) rfl rfl rfl ?_
                    refine gx_env (F := [(2, _), (3, _), (4, _), (7, _), (10, _), (11, _), (20, _), (21, _), (22, _), (23, _), (31, _), (32, _)]) (.cons rfl (.cons rfl (.cons rfl (.cons rfl (.cons rfl (.cons rfl (.cons rfl (.cons rfl (.cons rfl (.cons rfl (.cons rfl (.cons rfl .nil)))))))))))) (gx_perm (by first | exact .refl _ | (repeat (first | exact .refl _ | refine perm_take (by first | exact .head | exact .tail .head | exact .tail (.tail .head) | exact .tail (.tail (.tail .head)) | exact .tail (.tail (.tail (.tail .head))) | exact .tail (.tail (.tail (.tail (.tail .head))))) ?_))) (hD0 b10 b11 True.intro))
              · rintro b11 _
                refine ga_branch (rs := [2]) (by kernel_rfl) rfl (.cons (ls' := [true, true, true, true, false, false]) rfl rfl ?_ .nil)
                refine gs_alloc kze24 rfl rfl rfl (fun b10 => ?_)
                refine gx_env (F := [(2, _), (3, _), (4, _), (7, _), (10, _), (11, _), (20, _), (21, _), (22, _), (23, _), (31, _), (32, _)]) (.cons rfl (.cons rfl (.cons rfl (.cons rfl (.cons rfl (.cons rfl (.cons rfl (.cons rfl (.cons rfl (.cons rfl (.cons rfl (.cons rfl .nil)))))))))))) (gx_perm (by first | exact .refl _ | (repeat (first | exact .refl _ | refine perm_take (by first | exact .head | exact .tail .head | exact .tail (.tail .head) | exact .tail (.tail (.tail .head)) | exact .tail (.tail (.tail (.tail .head))) | exact .tail (.tail (.tail (.tail (.tail .head))))) ?_))) (hD1 b10 b11 True.intro))
            · rintro b10 _
              refine ga_branch (rs := [3]) (by kernel_rfl) rfl (.cons (ls' := [true, true, true, true, false, false]) rfl rfl ?_ .nil)
              refine gs_alloc kze24 rfl rfl rfl (fun b11 => ?_)
              refine gx_env (F := [(2, _), (3, _), (4, _), (7, _), (10, _), (11, _), (20, _), (21, _), (22, _), (23, _), (31, _), (32, _)]) (.cons rfl (.cons rfl (.cons rfl (.cons rfl (.cons rfl (.cons rfl (.cons rfl (.cons rfl (.cons rfl (.cons rfl (.cons rfl (.cons rfl .nil)))))))))))) (gx_perm (by first | exact .refl _ | (repeat (first | exact .refl _ | refine perm_take (by first | exact .head | exact .tail .head | exact .tail (.tail .head) | exact .tail (.tail (.tail .head)) | exact .tail (.tail (.tail (.tail .head))) | exact .tail (.tail (.tail (.tail (.tail .head))))) ?_))) (hD1 b10 b11 True.intro))
          · rintro b10 b11 _
            refine ga_branch (rs := [4]) (by kernel_rfl) rfl (.cons (ls' := [true, true, true, true, true, false]) rfl rfl ?_ .nil)
            refine gs_store ksz24 rfl rfl rfl rfl rfl rfl (by first | exact .head | exact .tail .head | exact .tail (.tail .head) | exact .tail (.tail (.tail .head)) | exact .tail (.tail (.tail (.tail .head))) | exact .tail (.tail (.tail (.tail (.tail .head))))) (by simp) (by first | ((with_reducible refine splice_all _ _ ?_); simp; done) | (simp only [splice, stL, digL, List.take_succ_cons, List.take_zero, List.drop_succ_cons, List.drop_zero, List.length_cons, List.length_nil, Nat.reduceAdd, Nat.reduceMul, Nat.zero_add, Nat.zero_mul, List.cons_append, List.nil_append]; exact rfl)) ?_
            refine gx_env (F := [(2, _), (3, _), (4, _), (7, _), (10, _), (11, _), (20, _), (21, _), (22, _), (23, _), (31, _), (32, _)]) (.cons rfl (.cons rfl (.cons rfl (.cons rfl (.cons rfl (.cons rfl (.cons rfl (.cons rfl (.cons rfl (.cons rfl (.cons rfl (.cons rfl .nil)))))))))))) (gx_perm (by first | exact .refl _ | (repeat (first | exact .refl _ | refine perm_take (by first | exact .head | exact .tail .head | exact .tail (.tail .head) | exact .tail (.tail (.tail .head)) | exact .tail (.tail (.tail (.tail .head))) | exact .tail (.tail (.tail (.tail (.tail .head))))) ?_))) (hD0 b10 b11 True.intro))
        · rintro b10 b11 _
          refine ga_branch (rs := [5]) (by kernel_rfl) rfl (.cons (ls' := [true, true, true, true, true, true]) rfl rfl ?_ .nil)
          refine gs_store ksz24 rfl rfl rfl rfl rfl rfl (by first | exact .head | exact .tail .head | exact .tail (.tail .head) | exact .tail (.tail (.tail .head)) | exact .tail (.tail (.tail (.tail .head))) | exact .tail (.tail (.tail (.tail (.tail .head))))) (by simp) (by first | ((with_reducible refine splice_all _ _ ?_); simp; done) | (simp only [splice, stL, digL, List.take_succ_cons, List.take_zero, List.drop_succ_cons, List.drop_zero, List.length_cons, List.length_nil, Nat.reduceAdd, Nat.reduceMul, Nat.zero_add, Nat.zero_mul, List.cons_append, List.nil_append]; exact rfl)) ?_
          refine ga_done (by kernel_rfl) ?_
          refine gk_seq ?_
          refine gc_seq ?_
          refine gc_drawAll kmixed (by kernel_rfl) ?_
          refine gq_val (val_loadA kag24 rfl (sees_mem (by repeat (first | exact .head _ | refine .tail _ ?_ | refine List.mem_append_right _ ?_))) rfl rfl) rfl rfl rfl ?_
          refine gq_pure (enters kcall42 (.cons rfl .nil)) (one_spec _) rfl rfl rfl (fun _ _ => trivial) ?_
          refine gq_val (val_loadA kag22 rfl (sees_mem (by repeat (first | exact .head _ | refine .tail _ ?_ | refine List.mem_append_right _ ?_))) rfl rfl) rfl rfl rfl ?_
          refine gq_pure (enters kcall46 (.cons rfl .nil)) (rone_spec _) rfl rfl rfl (fun _ _ => trivial) ?_
          refine gq_val (val_yes (val_eqlDig kdig22 rfl rfl rfl rfl) rfl) rfl rfl rfl ?_
          refine gq_val (val_move rfl) rfl rfl rfl ?_
          refine gq_val (val_loadA kag24 rfl (sees_mem (by repeat (first | exact .head _ | refine .tail _ ?_ | refine List.mem_append_right _ ?_))) rfl rfl) rfl rfl rfl ?_
          refine gq_val (val_loadA kag24 rfl (sees_mem (by repeat (first | exact .head _ | refine .tail _ ?_ | refine List.mem_append_right _ ?_))) rfl rfl) rfl rfl rfl ?_
          refine gq_pure (enters kcall47 (.cons rfl (.cons rfl .nil))) (two_spec _ _) rfl rfl rfl (fun _ _ => trivial) ?_
          refine gq_val (val_loadA kag22 rfl (sees_mem (by repeat (first | exact .head _ | refine .tail _ ?_ | refine List.mem_append_right _ ?_))) rfl rfl) rfl rfl rfl ?_
          refine gq_val (val_loadA kag22 rfl (sees_mem (by repeat (first | exact .head _ | refine .tail _ ?_ | refine List.mem_append_right _ ?_))) rfl rfl) rfl rfl rfl ?_
          refine gq_pure (enters kcall48 (.cons rfl (.cons rfl .nil))) (rtwo_spec _ _) rfl rfl rfl (fun _ _ => trivial) ?_
          refine gq_val (val_yes (val_eqlDig kdig22 rfl rfl rfl rfl) rfl) rfl rfl rfl ?_
          refine gq_val (val_pick_t rfl rfl) rfl rfl rfl ?_
          refine gq_val (val_move rfl) rfl rfl rfl ?_
          refine gq_val (val_move rfl) rfl rfl rfl ?_
          refine gq_pure (enters kcall49 (.cons rfl .nil)) (many_spec _ _ _ l rfl (by omega)) rfl rfl rfl (row_of_sees (hown.look (by repeat (first | exact .here | exact .headR | exact .app | refine .tail ?_ | refine .appr ?_)))) ?_
          refine gq_val (val_move rfl) rfl rfl rfl ?_
          refine gq_pure (enters kcall50 (.cons rfl .nil)) (rmany_spec _ _ _ l rfl (by omega)) rfl rfl rfl (row_of_sees (sees_row hpre)) ?_
          refine gq_val (val_yes (val_eqlDig kdig22 rfl rfl rfl rfl) rfl) rfl rfl rfl ?_
          refine gq_val (val_pick_t rfl rfl) rfl rfl rfl ?_
          refine gq_val (val_assign rfl) rfl rfl rfl ?_
          refine gq_nil ?_
          refine gl_nil ?_
          refine gk_seq ?_
          refine gc_ret ?_
          refine gk_ret rfl (resv_tmp rfl .nil) (List.nil_sublist _) ?_
          exact ⟨rfl, rfl⟩

/-- baize/baizelaw02.HashStream -/
theorem hashStream_walk (x : BitVec 64) (m n far : Int) (hm : -32768 ≤ m) (hm2 : m ≤ 32767) (hn : -32768 ≤ n) (hn2 : n ≤ 32767) : Pure Try.prog 5 ([Dig x, .int .i16 m, .int .i16 n, I64 far]).toArray (fun _ => True) (.bool true) := by
  obtain ⟨a, ha, ha1, ha2⟩ : ∃ a : Int, Int.tmod m 400 = a ∧ -400 < a ∧ a < 400 := ⟨_, rfl, rem_in m 400 (by decide)⟩
  obtain ⟨b, hb, hb1, hb2⟩ : ∃ b : Int, Int.tmod n 400 = b ∧ -400 < b ∧ b < 400 := ⟨_, rfl, rem_in n 400 (by decide)⟩
  obtain ⟨p, hp, hp1⟩ : ∃ p : Int, (if b < a then b else a) = p ∧ p ≤ a ∧ p ≤ b := ⟨_, rfl, by split <;> omega⟩
  obtain ⟨q, hq, hq1⟩ : ∃ q : Int, (if a < b then b else a) = q ∧ a ≤ q ∧ b ≤ q ∧ q < 400 := ⟨_, rfl, by split <;> omega⟩
  have hfront := hStreamI_front x p q (by omega) (by omega)
  have hle : (hStreamI x p).length ≤ (hStreamI x q).length := by rw [hfront, List.length_take]; exact Nat.min_le_right _ _
  have hlong : ((hStreamI x q).length : Int) = if q < 0 then 0 else q := by rw [hStreamI_len]; split <;> split <;> omega
  refine spec_walk (n := 80) Try.func5 rfl rfl rfl (fun w0 hpre => ?_)
  refine gc_seq ?_
  refine gc_region ?_
  refine gl_cons (gs_box rfl rfl rfl rfl (fun b4 => ?_))
  refine gl_cons (gs_val (val_assign rfl) rfl rfl rfl ?_)
  refine gl_nil ?_
  refine gk_seq ?_
  refine gc_seq ?_
  refine gc_region ?_
  refine gl_cons (gs_val (val_move rfl) rfl rfl rfl ?_)
  refine gl_cons (gs_val (val_convI rfl kis36 kun3 (by omega)) rfl rfl rfl ?_)
  refine gl_cons (gs_val (val_cast (v := I64 a) (val_remT rfl rfl (by decide)) (congrArg I64 ha)) rfl rfl rfl ?_)
  refine gl_cons (gs_val (val_move rfl) rfl rfl rfl ?_)
  refine gl_cons (gs_val (val_convI rfl kis36 kun3 (by omega)) rfl rfl rfl ?_)
  refine gl_cons (gs_val (val_cast (v := I64 b) (val_remT rfl rfl (by decide)) (congrArg I64 hb)) rfl rfl rfl ?_)
  refine gl_cons (gs_val (val_assign rfl) rfl rfl rfl ?_)
  refine gl_cons (gs_val (val_assign rfl) rfl rfl rfl ?_)
  refine gl_nil ?_
  refine gk_seq ?_
  refine gc_seq ?_
  refine gc_region ?_
  refine gl_cons (gs_val (val_loadA kag22 rfl (sees_mem (by repeat (first | exact .head _ | refine .tail _ ?_ | refine List.mem_append_right _ ?_))) rfl rfl) rfl rfl rfl ?_)
  refine gl_cons (gs_alloc kze24 rfl rfl rfl (fun b11 => ?_))
  refine gl_cons (gs_store ksz24 rfl rfl rfl rfl rfl rfl (by first | exact .head | exact .tail .head | exact .tail (.tail .head) | exact .tail (.tail (.tail .head)) | exact .tail (.tail (.tail (.tail .head))) | exact .tail (.tail (.tail (.tail (.tail .head))))) (by simp) (by first | ((with_reducible refine splice_all _ _ ?_); simp; done) | (simp only [splice, stL, digL, List.take_succ_cons, List.take_zero, List.drop_succ_cons, List.drop_zero, List.length_cons, List.length_nil, Nat.reduceAdd, Nat.reduceMul, Nat.zero_add, Nat.zero_mul, List.cons_append, List.nil_append]; exact rfl)) ?_)
  refine gl_nil ?_
  refine gk_seq ?_
  refine gc_seq ?_
  refine ga_start (m := 12) (ls := [false, false, false, false, false, false, false, false, false, false, false, false]) kmixed rfl rfl ?_
  apply share3 (α := Option Addr) (β := Nat) (γ := List Ent) (m' := 3) (ls' := [true, true, true, true, true, true, true, true, true, false, false, false])
  · intro hD0
    apply share0  (m' := 4) (ls' := [true, true, true, true, false, true, true, true, true, false, false, false])
    · intro hD1
      refine ga_take (i := 1) (ls' := [false, true, false, false, false, false, false, false, false, false, false, false]) rfl (by kernel_rfl) rfl (fun _ _ _ => val_move rfl) rfl rfl rfl ?_
      refine ga_take (i := 2) (ls' := [false, true, true, false, false, false, false, false, false, false, false, false]) rfl (by kernel_rfl) rfl (fun _ _ _ => val_move rfl) rfl rfl rfl ?_
      refine ga_take (i := 3) (ls' := [false, true, true, true, false, false, false, false, false, false, false, false]) rfl (by kernel_rfl) rfl (fun _ _ _ => val_cast (v := I64 p) (val_min2 rfl rfl) (congrArg I64 hp)) rfl rfl rfl ?_
      refine ga_take (i := 6) (ls' := [false, true, true, true, false, false, true, false, false, false, false, false]) rfl (by kernel_rfl) rfl (fun _ _ _ => val_move rfl) rfl rfl rfl ?_
      refine ga_take (i := 7) (ls' := [false, true, true, true, false, false, true, true, false, false, false, false]) rfl (by kernel_rfl) rfl (fun _ _ _ => val_move rfl) rfl rfl rfl ?_
      refine ga_take (i := 8) (ls' := [false, true, true, true, false, false, true, true, true, false, false, false]) rfl (by kernel_rfl) rfl (fun _ _ _ => val_cast (v := I64 q) (val_max2 rfl rfl) (congrArg I64 hq)) rfl rfl rfl ?_
      refine ga_branch (rs := [0, 5]) (by kernel_rfl) rfl (.cons (ls' := [true, true, true, true, false, false, true, true, true, false, false, false]) rfl rfl ?_ (.cons (ls' := [false, true, true, true, false, true, true, true, true, false, false, false]) rfl rfl ?_ .nil))
      · skip
        refine gs_val (val_loadA kag24 rfl (sees_mem (by repeat (first | exact .head _ | refine .tail _ ?_ | refine List.mem_append_right _ ?_))) rfl rfl) rfl rfl rfl ?_
        refine ga_branch (rs := [4, 5]) (by kernel_rfl) rfl (.cons (ls' := [true, true, true, true, true, false, true, true, true, false, false, false]) rfl rfl ?_ (.cons (ls' := [true, true, true, true, false, true, true, true, true, false, false, false]) rfl rfl ?_ .nil))
        · skip
          refine gs_makes (enters kcall43 (.cons rfl (.cons rfl .nil))) (stream_spec x p) rfl rfl rfl (fun _ _ => trivial) (fun ⟨ba25, c25, N25⟩ h25 => ?_)
          refine ga_branch (rs := [5]) (by kernel_rfl) rfl (.cons (ls' := [true, true, true, true, true, true, true, true, true, false, false, false]) rfl rfl ?_ .nil)
          refine gs_val (val_loadA kag24 rfl (sees_mem (by repeat (first | exact .head _ | refine .tail _ ?_ | refine List.mem_append_right _ ?_))) rfl rfl) rfl rfl rfl ?_
          refine gx_env (F := [(0, _), (1, _), (2, _), (3, _), (4, _), (8, _), (9, _), (10, _), (11, _), (14, _), (15, _), (16, _), (17, _), (18, _), (19, _), (20, _), (21, _), (22, _), (23, _), (24, _), (25, _), (26, _), (27, _), (28, _), (29, _)]) (.cons rfl (.cons rfl (.cons rfl (.cons rfl (.cons rfl (.cons rfl (.cons rfl (.cons rfl (.cons rfl (.cons rfl (.cons rfl (.cons rfl (.cons rfl (.cons rfl (.cons rfl (.cons rfl (.cons rfl (.cons rfl (.cons rfl (.cons rfl (.cons rfl (.cons rfl (.cons rfl (.cons rfl (.cons rfl .nil))))))))))))))))))))))))) (gx_perm (by first | exact .refl _ | (repeat (first | exact .refl _ | refine perm_take (by first | exact .head | exact .tail .head | exact .tail (.tail .head) | exact .tail (.tail (.tail .head)) | exact .tail (.tail (.tail (.tail .head))) | exact .tail (.tail (.tail (.tail (.tail .head))))) ?_))) (hD0 ba25 c25 N25 (And.intro h25 True.intro)))
        · skip
          refine gs_val (val_loadA kag24 rfl (sees_mem (by repeat (first | exact .head _ | refine .tail _ ?_ | refine List.mem_append_right _ ?_))) rfl rfl) rfl rfl rfl ?_
          refine gx_env (F := [(0, _), (1, _), (2, _), (3, _), (4, _), (8, _), (9, _), (10, _), (11, _), (14, _), (15, _), (16, _), (17, _), (18, _), (19, _), (20, _), (21, _), (22, _), (23, _), (24, _), (26, _), (27, _), (28, _), (29, _)]) (.cons rfl (.cons rfl (.cons rfl (.cons rfl (.cons rfl (.cons rfl (.cons rfl (.cons rfl (.cons rfl (.cons rfl (.cons rfl (.cons rfl (.cons rfl (.cons rfl (.cons rfl (.cons rfl (.cons rfl (.cons rfl (.cons rfl (.cons rfl (.cons rfl (.cons rfl (.cons rfl (.cons rfl .nil)))))))))))))))))))))))) (gx_perm (by first | exact .refl _ | (repeat (first | exact .refl _ | refine perm_take (by first | exact .head | exact .tail .head | exact .tail (.tail .head) | exact .tail (.tail (.tail .head)) | exact .tail (.tail (.tail (.tail .head))) | exact .tail (.tail (.tail (.tail (.tail .head))))) ?_))) (hD1  True.intro))
      · skip
        refine gs_val (val_loadA kag24 rfl (sees_mem (by repeat (first | exact .head _ | refine .tail _ ?_ | refine List.mem_append_right _ ?_))) rfl rfl) rfl rfl rfl ?_
        refine ga_branch (rs := [0]) (by kernel_rfl) rfl (.cons (ls' := [true, true, true, true, false, true, true, true, true, false, false, false]) rfl rfl ?_ .nil)
        refine gs_val (val_loadA kag24 rfl (sees_mem (by repeat (first | exact .head _ | refine .tail _ ?_ | refine List.mem_append_right _ ?_))) rfl rfl) rfl rfl rfl ?_
        refine gx_env (F := [(0, _), (1, _), (2, _), (3, _), (4, _), (8, _), (9, _), (10, _), (11, _), (14, _), (15, _), (16, _), (17, _), (18, _), (19, _), (20, _), (21, _), (22, _), (23, _), (24, _), (26, _), (27, _), (28, _), (29, _)]) (.cons rfl (.cons rfl (.cons rfl (.cons rfl (.cons rfl (.cons rfl (.cons rfl (.cons rfl (.cons rfl (.cons rfl (.cons rfl (.cons rfl (.cons rfl (.cons rfl (.cons rfl (.cons rfl (.cons rfl (.cons rfl (.cons rfl (.cons rfl (.cons rfl (.cons rfl (.cons rfl (.cons rfl .nil)))))))))))))))))))))))) (gx_perm (by first | exact .refl _ | (repeat (first | exact .refl _ | refine perm_take (by first | exact .head | exact .tail .head | exact .tail (.tail .head) | exact .tail (.tail (.tail .head)) | exact .tail (.tail (.tail (.tail .head))) | exact .tail (.tail (.tail (.tail (.tail .head))))) ?_))) (hD1  True.intro))
    · rintro  _
      refine ga_branch (rs := [4]) (by kernel_rfl) rfl (.cons (ls' := [true, true, true, true, true, true, true, true, true, false, false, false]) rfl rfl ?_ .nil)
      refine gs_makes (enters kcall43 (.cons rfl (.cons rfl .nil))) (stream_spec x p) rfl rfl rfl (fun _ _ => trivial) (fun ⟨ba25, c25, N25⟩ h25 => ?_)
      refine gx_env (F := [(0, _), (1, _), (2, _), (3, _), (4, _), (8, _), (9, _), (10, _), (11, _), (14, _), (15, _), (16, _), (17, _), (18, _), (19, _), (20, _), (21, _), (22, _), (23, _), (24, _), (25, _), (26, _), (27, _), (28, _), (29, _)]) (.cons rfl (.cons rfl (.cons rfl (.cons rfl (.cons rfl (.cons rfl (.cons rfl (.cons rfl (.cons rfl (.cons rfl (.cons rfl (.cons rfl (.cons rfl (.cons rfl (.cons rfl (.cons rfl (.cons rfl (.cons rfl (.cons rfl (.cons rfl (.cons rfl (.cons rfl (.cons rfl (.cons rfl (.cons rfl .nil))))))))))))))))))))))))) (gx_perm (by first | exact .refl _ | (repeat (first | exact .refl _ | refine perm_take (by first | exact .head | exact .tail .head | exact .tail (.tail .head) | exact .tail (.tail (.tail .head)) | exact .tail (.tail (.tail (.tail .head))) | exact .tail (.tail (.tail (.tail (.tail .head))))) ?_))) (hD0 ba25 c25 N25 (And.intro h25 True.intro)))
  · rintro ba25 c25 N25 ⟨h25, _⟩
    refine ga_branch (rs := [9]) (by kernel_rfl) rfl (.cons (ls' := [true, true, true, true, true, true, true, true, true, true, false, false]) rfl rfl ?_ .nil)
    refine gs_makes (enters kcall43 (.cons rfl (.cons rfl .nil))) (stream_spec x q) rfl rfl rfl (fun _ _ => trivial) (fun ⟨ba30, c30, N30⟩ h30 => ?_)
    refine ga_take (i := 10) (ls' := [true, true, true, true, true, true, true, true, true, true, true, false]) rfl (by kernel_rfl) rfl (fun _ _ _ => val_assign rfl) rfl rfl rfl ?_
    refine ga_take (i := 11) (ls' := [true, true, true, true, true, true, true, true, true, true, true, true]) rfl (by kernel_rfl) rfl (fun _ _ _ => val_assign rfl) rfl rfl rfl ?_
    refine ga_done (by kernel_rfl) ?_
    refine gk_seq ?_
    refine gc_seq ?_
    refine gc_seq ?_
    refine ga_start (m := 36) (ls := [false, false, false, false, false, false, false, false, false, false, false, false, false, false, false, false, false, false, false, false, false, false, false, false, false, false, false, false, false, false, false, false, false, false, false, false]) kmixed rfl rfl ?_
    apply share3 (α := Option Addr) (β := Nat) (γ := List Ent) (m' := 28) (ls' := [true, true, true, true, true, true, true, true, false, false, false, false, false, false, false, false, false, false, false, false, false, false, false, false, false, false, false, false, false, false, false, false, false, false, false, false])
    · intro hD0
      apply share0  (m' := 29) (ls' := [true, true, true, true, true, false, true, true, false, false, false, false, false, false, false, false, false, false, false, false, false, false, false, false, false, false, false, false, false, false, false, false, false, false, false, false])
      · intro hD1
        refine ga_branch (rs := [0]) (by kernel_rfl) rfl (.cons (ls' := [true, false, false, false, false, false, false, false, false, false, false, false, false, false, false, false, false, false, false, false, false, false, false, false, false, false, false, false, false, false, false, false, false, false, false, false]) rfl rfl ?_ .nil)
        refine gs_pure (enters kcall35 .nil) (known02_spec) rfl rfl rfl (fun _ _ => trivial) ?_
        refine ga_take (i := 1) (ls' := [true, true, false, false, false, false, false, false, false, false, false, false, false, false, false, false, false, false, false, false, false, false, false, false, false, false, false, false, false, false, false, false, false, false, false, false]) rfl (by kernel_rfl) rfl (fun _ _ _ => val_not rfl) rfl rfl rfl ?_
        refine ga_take (i := 2) (ls' := [true, true, true, false, false, false, false, false, false, false, false, false, false, false, false, false, false, false, false, false, false, false, false, false, false, false, false, false, false, false, false, false, false, false, false, false]) rfl (by kernel_rfl) rfl (fun _ _ _ => val_move rfl) rfl rfl rfl ?_
        refine ga_take (i := 4) (ls' := [true, true, true, false, true, false, false, false, false, false, false, false, false, false, false, false, false, false, false, false, false, false, false, false, false, false, false, false, false, false, false, false, false, false, false, false]) rfl (by kernel_rfl) rfl (fun _ _ _ => val_move rfl) rfl rfl rfl ?_
        refine ga_take (i := 7) (ls' := [true, true, true, false, true, false, false, true, false, false, false, false, false, false, false, false, false, false, false, false, false, false, false, false, false, false, false, false, false, false, false, false, false, false, false, false]) rfl (by kernel_rfl) rfl (fun _ _ _ => val_move rfl) rfl rfl rfl ?_
        refine ga_branch (rs := [3, 6]) (by kernel_rfl) rfl (.cons (ls' := [true, true, true, true, true, false, false, true, false, false, false, false, false, false, false, false, false, false, false, false, false, false, false, false, false, false, false, false, false, false, false, false, false, false, false, false]) rfl rfl ?_ (.cons (ls' := [true, true, true, false, true, false, true, true, false, false, false, false, false, false, false, false, false, false, false, false, false, false, false, false, false, false, false, false, false, false, false, false, false, false, false, false]) rfl rfl ?_ .nil))
        · skip
          refine gs_val (val_loadA kag24 rfl (sees_mem (by repeat (first | exact .head _ | refine .tail _ ?_ | refine List.mem_append_right _ ?_))) rfl rfl) rfl rfl rfl ?_
          refine ga_branch (rs := [5, 6]) (by kernel_rfl) rfl (.cons (ls' := [true, true, true, true, true, true, false, true, false, false, false, false, false, false, false, false, false, false, false, false, false, false, false, false, false, false, false, false, false, false, false, false, false, false, false, false]) rfl rfl ?_ (.cons (ls' := [true, true, true, true, true, false, true, true, false, false, false, false, false, false, false, false, false, false, false, false, false, false, false, false, false, false, false, false, false, false, false, false, false, false, false, false]) rfl rfl ?_ .nil))
          · skip
            refine gs_makes (enters kcall43 (.cons rfl (.cons rfl .nil))) (stream_spec x a) rfl rfl rfl (fun _ _ => trivial) (fun ⟨ba36, c36, N36⟩ h36 => ?_)
            refine ga_branch (rs := [6]) (by kernel_rfl) rfl (.cons (ls' := [true, true, true, true, true, true, true, true, false, false, false, false, false, false, false, false, false, false, false, false, false, false, false, false, false, false, false, false, false, false, false, false, false, false, false, false]) rfl rfl ?_ .nil)
            refine gs_val (val_loadA kag22 rfl (sees_mem (by repeat (first | exact .head _ | refine .tail _ ?_ | refine List.mem_append_right _ ?_))) rfl rfl) rfl rfl rfl ?_
            refine gx_env (F := [(0, _), (1, _), (2, _), (3, _), (4, _), (8, _), (9, _), (10, _), (11, _), (12, _), (13, _), (14, _), (15, _), (16, _), (17, _), (18, _), (19, _), (20, _), (21, _), (22, _), (23, _), (24, _), (25, _), (26, _), (27, _), (28, _), (29, _), (30, _), (31, _), (32, _), (33, _), (34, _), (35, _), (36, _), (37, _), (38, _)]) (.cons rfl (.cons rfl (.cons rfl (.cons rfl (.cons rfl (.cons rfl (.cons rfl (.cons rfl (.cons rfl (.cons rfl (.cons rfl (.cons rfl (.cons rfl (.cons rfl (.cons rfl (.cons rfl (.cons rfl (.cons rfl (.cons rfl (.cons rfl (.cons rfl (.cons rfl (.cons rfl (.cons rfl (.cons rfl (.cons rfl (.cons rfl (.cons rfl (.cons rfl (.cons rfl (.cons rfl (.cons rfl (.cons rfl (.cons rfl (.cons rfl (.cons rfl .nil)))))))))))))))))))))))))))))))))))) (gx_perm (by first | exact .refl _ | (repeat (first | exact .refl _ | refine perm_take (by first | exact .head | exact .tail .head | exact .tail (.tail .head) | exact .tail (.tail (.tail .head)) | exact .tail (.tail (.tail (.tail .head))) | exact .tail (.tail (.tail (.tail (.tail .head))))) ?_))) (hD0 ba36 c36 N36 (And.intro h36 True.intro)))
          · skip
            refine gs_val (val_loadA kag22 rfl (sees_mem (by repeat (first | exact .head _ | refine .tail _ ?_ | refine List.mem_append_right _ ?_))) rfl rfl) rfl rfl rfl ?_
            refine gx_env (F := [(0, _), (1, _), (2, _), (3, _), (4, _), (8, _), (9, _), (10, _), (11, _), (12, _), (13, _), (14, _), (15, _), (16, _), (17, _), (18, _), (19, _), (20, _), (21, _), (22, _), (23, _), (24, _), (25, _), (26, _), (27, _), (28, _), (29, _), (30, _), (31, _), (32, _), (33, _), (34, _), (35, _), (37, _), (38, _)]) (.cons rfl (.cons rfl (.cons rfl (.cons rfl (.cons rfl (.cons rfl (.cons rfl (.cons rfl (.cons rfl (.cons rfl (.cons rfl (.cons rfl (.cons rfl (.cons rfl (.cons rfl (.cons rfl (.cons rfl (.cons rfl (.cons rfl (.cons rfl (.cons rfl (.cons rfl (.cons rfl (.cons rfl (.cons rfl (.cons rfl (.cons rfl (.cons rfl (.cons rfl (.cons rfl (.cons rfl (.cons rfl (.cons rfl (.cons rfl (.cons rfl .nil))))))))))))))))))))))))))))))))))) (gx_perm (by first | exact .refl _ | (repeat (first | exact .refl _ | refine perm_take (by first | exact .head | exact .tail .head | exact .tail (.tail .head) | exact .tail (.tail (.tail .head)) | exact .tail (.tail (.tail (.tail .head))) | exact .tail (.tail (.tail (.tail (.tail .head))))) ?_))) (hD1  True.intro))
        · skip
          refine gs_val (val_loadA kag22 rfl (sees_mem (by repeat (first | exact .head _ | refine .tail _ ?_ | refine List.mem_append_right _ ?_))) rfl rfl) rfl rfl rfl ?_
          refine ga_branch (rs := [3]) (by kernel_rfl) rfl (.cons (ls' := [true, true, true, true, true, false, true, true, false, false, false, false, false, false, false, false, false, false, false, false, false, false, false, false, false, false, false, false, false, false, false, false, false, false, false, false]) rfl rfl ?_ .nil)
          refine gs_val (val_loadA kag24 rfl (sees_mem (by repeat (first | exact .head _ | refine .tail _ ?_ | refine List.mem_append_right _ ?_))) rfl rfl) rfl rfl rfl ?_
          refine gx_env (F := [(0, _), (1, _), (2, _), (3, _), (4, _), (8, _), (9, _), (10, _), (11, _), (12, _), (13, _), (14, _), (15, _), (16, _), (17, _), (18, _), (19, _), (20, _), (21, _), (22, _), (23, _), (24, _), (25, _), (26, _), (27, _), (28, _), (29, _), (30, _), (31, _), (32, _), (33, _), (34, _), (35, _), (37, _), (38, _)]) (.cons rfl (.cons rfl (.cons rfl (.cons rfl (.cons rfl (.cons rfl (.cons rfl (.cons rfl (.cons rfl (.cons rfl (.cons rfl (.cons rfl (.cons rfl (.cons rfl (.cons rfl (.cons rfl (.cons rfl (.cons rfl (.cons rfl (.cons rfl (.cons rfl (.cons rfl (.cons rfl (.cons rfl (.cons rfl (.cons rfl (.cons rfl (.cons rfl (.cons rfl (.cons rfl (.cons rfl (.cons rfl (.cons rfl (.cons rfl (.cons rfl .nil))))))))))))))))))))))))))))))))))) (gx_perm (by first | exact .refl _ | (repeat (first | exact .refl _ | refine perm_take (by first | exact .head | exact .tail .head | exact .tail (.tail .head) | exact .tail (.tail (.tail .head)) | exact .tail (.tail (.tail (.tail .head))) | exact .tail (.tail (.tail (.tail (.tail .head))))) ?_))) (hD1  True.intro))
      · rintro  _
        refine ga_branch (rs := [5]) (by kernel_rfl) rfl (.cons (ls' := [true, true, true, true, true, true, true, true, false, false, false, false, false, false, false, false, false, false, false, false, false, false, false, false, false, false, false, false, false, false, false, false, false, false, false, false]) rfl rfl ?_ .nil)
        refine gs_makes (enters kcall43 (.cons rfl (.cons rfl .nil))) (stream_spec x a) rfl rfl rfl (fun _ _ => trivial) (fun ⟨ba36, c36, N36⟩ h36 => ?_)
        refine gx_env (F := [(0, _), (1, _), (2, _), (3, _), (4, _), (8, _), (9, _), (10, _), (11, _), (12, _), (13, _), (14, _), (15, _), (16, _), (17, _), (18, _), (19, _), (20, _), (21, _), (22, _), (23, _), (24, _), (25, _), (26, _), (27, _), (28, _), (29, _), (30, _), (31, _), (32, _), (33, _), (34, _), (35, _), (36, _), (37, _), (38, _)]) (.cons rfl (.cons rfl (.cons rfl (.cons rfl (.cons rfl (.cons rfl (.cons rfl (.cons rfl (.cons rfl (.cons rfl (.cons rfl (.cons rfl (.cons rfl (.cons rfl (.cons rfl (.cons rfl (.cons rfl (.cons rfl (.cons rfl (.cons rfl (.cons rfl (.cons rfl (.cons rfl (.cons rfl (.cons rfl (.cons rfl (.cons rfl (.cons rfl (.cons rfl (.cons rfl (.cons rfl (.cons rfl (.cons rfl (.cons rfl (.cons rfl (.cons rfl .nil)))))))))))))))))))))))))))))))))))) (gx_perm (by first | exact .refl _ | (repeat (first | exact .refl _ | refine perm_take (by first | exact .head | exact .tail .head | exact .tail (.tail .head) | exact .tail (.tail (.tail .head)) | exact .tail (.tail (.tail (.tail .head))) | exact .tail (.tail (.tail (.tail (.tail .head))))) ?_))) (hD0 ba36 c36 N36 (And.intro h36 True.intro)))
    · rintro ba36 c36 N36 ⟨h36, _⟩
      refine ga_branch (rs := [8]) (by kernel_rfl) rfl (.cons (ls' := [true, true, true, true, true, true, true, true, true, false, false, false, false, false, false, false, false, false, false, false, false, false, false, false, false, false, false, false, false, false, false, false, false, false, false, false]) rfl rfl ?_ .nil)
      refine gs_makes (enters kcall45 (.cons rfl (.cons rfl .nil))) (rstream_spec x a) rfl rfl rfl (fun _ _ => trivial) (fun ⟨ba39, c39, N39⟩ h39 => ?_)
      refine ga_branch (rs := [9]) (by kernel_rfl) rfl (.cons (ls' := [true, true, true, true, true, true, true, true, true, true, false, false, false, false, false, false, false, false, false, false, false, false, false, false, false, false, false, false, false, false, false, false, false, false, false, false]) rfl rfl ?_ .nil)
      refine gs_pure (enters kcall44 (.cons rfl (.cons rfl .nil))) (same02_yes _ _ _ _ _ _ (hStreamI x a) (hStreamI x a) rfl rfl rfl) rfl rfl rfl (fun w hi => ⟨row_of_sees (h36.look (by repeat (first | exact .here | exact .headR | exact .app | refine .tail ?_ | refine .appr ?_))) w hi, row_of_sees (h39.look (by repeat (first | exact .here | exact .headR | exact .app | refine .tail ?_ | refine .appr ?_))) w hi⟩) ?_
      refine ga_take (i := 10) (ls' := [true, true, true, true, true, true, true, true, true, true, true, false, false, false, false, false, false, false, false, false, false, false, false, false, false, false, false, false, false, false, false, false, false, false, false, false]) rfl (by kernel_rfl) rfl (fun _ _ _ => val_not rfl) rfl rfl rfl ?_
      refine ga_take (i := 11) (ls' := [true, true, true, true, true, true, true, true, true, true, true, true, false, false, false, false, false, false, false, false, false, false, false, false, false, false, false, false, false, false, false, false, false, false, false, false]) rfl (by kernel_rfl) rfl (fun _ _ _ => val_pick_f rfl rfl) rfl rfl rfl ?_
      refine ga_take (i := 12) (ls' := [true, true, true, true, true, true, true, true, true, true, true, true, true, false, false, false, false, false, false, false, false, false, false, false, false, false, false, false, false, false, false, false, false, false, false, false]) rfl (by kernel_rfl) rfl (fun _ _ _ => val_move rfl) rfl rfl rfl ?_
      refine ga_take (i := 13) (ls' := [true, true, true, true, true, true, true, true, true, true, true, true, true, true, false, false, false, false, false, false, false, false, false, false, false, false, false, false, false, false, false, false, false, false, false, false]) rfl (by kernel_rfl) rfl (fun _ _ _ => val_move rfl) rfl rfl rfl ?_
      refine ga_take (i := 14) (ls' := [true, true, true, true, true, true, true, true, true, true, true, true, true, true, true, false, false, false, false, false, false, false, false, false, false, false, false, false, false, false, false, false, false, false, false, false]) rfl (by kernel_rfl) rfl (fun _ _ _ => val_lenSli ksl37 rfl) rfl rfl rfl ?_
      refine ga_take (i := 15) (ls' := [true, true, true, true, true, true, true, true, true, true, true, true, true, true, true, true, false, false, false, false, false, false, false, false, false, false, false, false, false, false, false, false, false, false, false, false]) rfl (by kernel_rfl) rfl (fun _ _ _ => val_move rfl) rfl rfl rfl ?_
      refine ga_take (i := 16) (ls' := [true, true, true, true, true, true, true, true, true, true, true, true, true, true, true, true, true, false, false, false, false, false, false, false, false, false, false, false, false, false, false, false, false, false, false, false]) rfl (by kernel_rfl) rfl (fun _ _ _ => val_move rfl) rfl rfl rfl ?_
      refine ga_take (i := 17) (ls' := [true, true, true, true, true, true, true, true, true, true, true, true, true, true, true, true, true, true, false, false, false, false, false, false, false, false, false, false, false, false, false, false, false, false, false, false]) rfl (by kernel_rfl) rfl (fun _ _ _ => val_max3 rfl rfl rfl) rfl rfl rfl ?_
      refine ga_take (i := 18) (ls' := [true, true, true, true, true, true, true, true, true, true, true, true, true, true, true, true, true, true, true, false, false, false, false, false, false, false, false, false, false, false, false, false, false, false, false, false]) rfl (by kernel_rfl) rfl (fun _ _ _ => val_no (val_neq rfl rfl) (fun h => h (by rw [hq]; exact hlong))) rfl rfl rfl ?_
      refine ga_take (i := 19) (ls' := [true, true, true, true, true, true, true, true, true, true, true, true, true, true, true, true, true, true, true, true, false, false, false, false, false, false, false, false, false, false, false, false, false, false, false, false]) rfl (by kernel_rfl) rfl (fun _ _ _ => val_pick_f rfl rfl) rfl rfl rfl ?_
      refine ga_take (i := 20) (ls' := [true, true, true, true, true, true, true, true, true, true, true, true, true, true, true, true, true, true, true, true, true, false, false, false, false, false, false, false, false, false, false, false, false, false, false, false]) rfl (by kernel_rfl) rfl (fun _ _ _ => val_move rfl) rfl rfl rfl ?_
      refine ga_take (i := 21) (ls' := [true, true, true, true, true, true, true, true, true, true, true, true, true, true, true, true, true, true, true, true, true, true, false, false, false, false, false, false, false, false, false, false, false, false, false, false]) rfl (by kernel_rfl) rfl (fun _ _ _ => val_move rfl) rfl rfl rfl ?_
      refine ga_take (i := 22) (ls' := [true, true, true, true, true, true, true, true, true, true, true, true, true, true, true, true, true, true, true, true, true, true, true, false, false, false, false, false, false, false, false, false, false, false, false, false]) rfl (by kernel_rfl) rfl (fun _ _ _ => val_lenSli ksl37 rfl) rfl rfl rfl ?_
      refine ga_take (i := 23) (ls' := [true, true, true, true, true, true, true, true, true, true, true, true, true, true, true, true, true, true, true, true, true, true, true, true, false, false, false, false, false, false, false, false, false, false, false, false]) rfl (by kernel_rfl) rfl (fun _ _ _ => val_move rfl) rfl rfl rfl ?_
      refine ga_take (i := 24) (ls' := [true, true, true, true, true, true, true, true, true, true, true, true, true, true, true, true, true, true, true, true, true, true, true, true, true, false, false, false, false, false, false, false, false, false, false, false]) rfl (by kernel_rfl) rfl (fun _ _ _ => val_lenSli ksl37 rfl) rfl rfl rfl ?_
      refine ga_take (i := 25) (ls' := [true, true, true, true, true, true, true, true, true, true, true, true, true, true, true, true, true, true, true, true, true, true, true, true, true, true, false, false, false, false, false, false, false, false, false, false]) rfl (by kernel_rfl) rfl (fun _ _ _ => val_no (val_gtr rfl rfl) (by omega)) rfl rfl rfl ?_
      refine ga_take (i := 26) (ls' := [true, true, true, true, true, true, true, true, true, true, true, true, true, true, true, true, true, true, true, true, true, true, true, true, true, true, true, false, false, false, false, false, false, false, false, false]) rfl (by kernel_rfl) rfl (fun _ _ _ => val_pick_f rfl rfl) rfl rfl rfl ?_
      refine ga_take (i := 27) (ls' := [true, true, true, true, true, true, true, true, true, true, true, true, true, true, true, true, true, true, true, true, true, true, true, true, true, true, true, true, false, false, false, false, false, false, false, false]) rfl (by kernel_rfl) rfl (fun _ _ _ => val_move rfl) rfl rfl rfl ?_
      refine ga_take (i := 28) (ls' := [true, true, true, true, true, true, true, true, true, true, true, true, true, true, true, true, true, true, true, true, true, true, true, true, true, true, true, true, true, false, false, false, false, false, false, false]) rfl (by kernel_rfl) rfl (fun _ _ _ => val_move rfl) rfl rfl rfl ?_
      refine ga_take (i := 29) (ls' := [true, true, true, true, true, true, true, true, true, true, true, true, true, true, true, true, true, true, true, true, true, true, true, true, true, true, true, true, true, true, false, false, false, false, false, false]) rfl (by kernel_rfl) rfl (fun _ _ _ => val_move rfl) rfl rfl rfl ?_
      refine ga_take (i := 30) (ls' := [true, true, true, true, true, true, true, true, true, true, true, true, true, true, true, true, true, true, true, true, true, true, true, true, true, true, true, true, true, true, true, false, false, false, false, false]) rfl (by kernel_rfl) rfl (fun _ _ _ => val_move rfl) rfl rfl rfl ?_
      refine ga_take (i := 31) (ls' := [true, true, true, true, true, true, true, true, true, true, true, true, true, true, true, true, true, true, true, true, true, true, true, true, true, true, true, true, true, true, true, true, false, false, false, false]) rfl (by kernel_rfl) rfl (fun _ _ _ => val_lenSli ksl37 rfl) rfl rfl rfl ?_
      refine ga_take (i := 32) (ls' := [true, true, true, true, true, true, true, true, true, true, true, true, true, true, true, true, true, true, true, true, true, true, true, true, true, true, true, true, true, true, true, true, true, false, false, false]) rfl (by kernel_rfl) rfl (fun _ _ _ => val_sliceH ksl37 rfl rfl rfl (Nat.le_trans hle h30.cap)) rfl rfl rfl ?_
      refine ga_branch (rs := [33]) (by kernel_rfl) rfl (.cons (ls' := [true, true, true, true, true, true, true, true, true, true, true, true, true, true, true, true, true, true, true, true, true, true, true, true, true, true, true, true, true, true, true, true, true, true, false, false]) rfl rfl ?_ .nil)
      refine gs_pure (enters kcall44 (.cons rfl (.cons rfl .nil))) (same02_yes _ _ _ _ _ _ (hStreamI x p) ((hStreamI x q).take (hStreamI x p).length) rfl (by rw [← hfront]) hfront) rfl rfl rfl (fun w hi => ⟨row_of_sees (h25.look (by repeat (first | exact .here | exact .headR | exact .app | refine .tail ?_ | refine .appr ?_))) w hi, row_of_sees (((h30.look (by repeat (first | exact .here | exact .headR | exact .app | refine .tail ?_ | refine .appr ?_))).take _).cast (by rw [List.map_take])) w hi⟩) ?_
      refine ga_take (i := 34) (ls' := [true, true, true, true, true, true, true, true, true, true, true, true, true, true, true, true, true, true, true, true, true, true, true, true, true, true, true, true, true, true, true, true, true, true, true, false]) rfl (by kernel_rfl) rfl (fun _ _ _ => val_not rfl) rfl rfl rfl ?_
      refine ga_take (i := 35) (ls' := [true, true, true, true, true, true, true, true, true, true, true, true, true, true, true, true, true, true, true, true, true, true, true, true, true, true, true, true, true, true, true, true, true, true, true, true]) rfl (by kernel_rfl) rfl (fun _ _ _ => val_pick_f rfl rfl) rfl rfl rfl ?_
      refine ga_done (by kernel_rfl) ?_
      refine gk_seq ?_
      refine gc_false rfl ?_
      refine gc_skip ?_
      refine gk_seq ?_
      refine gc_seq ?_
      refine gc_region ?_
      refine gl_cons (gs_val (val_move rfl) rfl rfl rfl ?_)
      refine gl_cons (gs_val (val_geq rfl rfl) rfl rfl rfl ?_)
      refine gl_cons (gs_val (val_move rfl) rfl rfl rfl ?_)
      refine gx_split 69 rfl (fun h69 => ?_) (fun h69 => ?_)
      · skip
        refine gl_cons (gs_val (val_move rfl) rfl rfl rfl ?_)
        refine gl_cons (gs_val (val_leq rfl rfl) rfl rfl rfl ?_)
        refine gl_cons (gs_val (val_pick_t rfl rfl) rfl rfl rfl ?_)
        refine gl_cons (gs_val (val_move rfl) rfl rfl rfl ?_)
        refine gx_split 73 rfl (fun h73 => ?_) (fun h73 => ?_)
        · skip
          refine gl_cons (gs_skip rfl rfl rfl ?_)
          refine gl_cons (gs_skip rfl rfl rfl ?_)
          refine gl_cons (gs_skip rfl rfl rfl ?_)
          refine gl_cons (gs_skip rfl rfl rfl ?_)
          refine gl_cons (gs_skip rfl rfl rfl ?_)
          refine gl_cons (gs_val (val_pick_t rfl rfl) rfl rfl rfl ?_)
          refine gl_cons (gs_val (val_assign rfl) rfl rfl rfl ?_)
          refine gl_nil ?_
          refine gk_seq ?_
          refine gc_ret ?_
          refine gk_ret rfl (resv_tmp rfl .nil) (List.nil_sublist _) ?_
          exact ⟨rfl, rfl⟩
        · skip
          refine gl_cons (gs_val (val_loadA kag24 rfl (sees_mem (by repeat (first | exact .head _ | refine .tail _ ?_ | refine List.mem_append_right _ ?_))) rfl rfl) rfl rfl rfl ?_)
          refine gl_cons (gs_val (val_move rfl) rfl rfl rfl ?_)
          refine gl_cons (gs_makes (enters kcall43 (.cons rfl (.cons rfl .nil))) (stream_spec x far) rfl rfl rfl (fun _ _ => trivial) (fun ⟨ba76, c76, N76⟩ h76 => ?_))
          refine gl_cons (gs_val (val_lenSli ksl37 rfl) rfl rfl rfl ?_)
          refine gl_cons (gs_val (val_yes (val_eql rfl rfl) (by rw [hStreamI_out x far (by omega)]; rfl)) rfl rfl rfl ?_)
          refine gl_cons (gs_val (val_pick_f rfl rfl) rfl rfl rfl ?_)
          refine gl_cons (gs_val (val_assign rfl) rfl rfl rfl ?_)
          refine gl_nil ?_
          refine gk_seq ?_
          refine gc_ret ?_
          refine gk_ret rfl (resv_tmp rfl .nil) (List.nil_sublist _) ?_
          exact ⟨rfl, rfl⟩
      · skip
        refine gl_cons (gs_skip rfl rfl rfl ?_)
        refine gl_cons (gs_skip rfl rfl rfl ?_)
        refine gl_cons (gs_val (val_pick_f rfl rfl) rfl rfl rfl ?_)
        refine gl_cons (gs_val (val_move rfl) rfl rfl rfl ?_)
        refine gl_cons (gs_val (val_loadA kag24 rfl (sees_mem (by repeat (first | exact .head _ | refine .tail _ ?_ | refine List.mem_append_right _ ?_))) rfl rfl) rfl rfl rfl ?_)
        refine gl_cons (gs_val (val_move rfl) rfl rfl rfl ?_)
        refine gl_cons (gs_makes (enters kcall43 (.cons rfl (.cons rfl .nil))) (stream_spec x far) rfl rfl rfl (fun _ _ => trivial) (fun ⟨ba76, c76, N76⟩ h76 => ?_))
        refine gl_cons (gs_val (val_lenSli ksl37 rfl) rfl rfl rfl ?_)
        refine gl_cons (gs_val (val_yes (val_eql rfl rfl) (by rw [hStreamI_out x far (by omega)]; rfl)) rfl rfl rfl ?_)
        refine gl_cons (gs_val (val_pick_f rfl rfl) rfl rfl rfl ?_)
        refine gl_cons (gs_val (val_assign rfl) rfl rfl rfl ?_)
        refine gl_nil ?_
        refine gk_seq ?_
        refine gc_ret ?_
        refine gk_ret rfl (resv_tmp rfl .nil) (List.nil_sublist _) ?_
        exact ⟨rfl, rfl⟩

end Go.Proofs.Ythmepionpjkcgaa
