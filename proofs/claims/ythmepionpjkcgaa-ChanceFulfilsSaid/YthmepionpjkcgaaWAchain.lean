/- The walk of functions of the program: what each computes, for every input. -/
import Derived.Test.YthmepionpjkcgaaWAFacts
import Derived.Test.YthmepionpjkcgaaWAhash
import Derived.Test.YthmepionpjkcgaaWAref02
namespace Go.Proofs.Ythmepionpjkcgaa
open Go Go.Eng
set_option linter.unusedVariables false
set_option linter.unusedSimpArgs false

/-- (*baize/chance.Chain).place -/
theorem place_spec (b : Nat) (s : BitVec 64) (r a : Nat) (k : Int) : Pure Try.prog 132 ([.pointer (some ⟨b, 0, none⟩), I64 k]).toArray (fun w => Row w [] (some ⟨b, 0, none⟩) (chL s r a)) (Dig (hChainI s k)) := by
  refine spec_walk (n := 11) Try.func132 rfl rfl rfl (fun w0 hpre => ?_)
  refine gc_seq ?_
  refine gc_region ?_
  refine gl_cons (gs_alloc kze24 rfl rfl rfl (fun b4 => ?_))
  refine gl_nil ?_
  refine gk_seq ?_
  refine gc_seq ?_
  refine gc_region ?_
  refine gl_cons (gs_val (val_move rfl) rfl rfl rfl ?_)
  refine gl_cons (gs_val (val_nilCheck rfl) rfl rfl rfl ?_)
  refine gl_cons (gs_val (val_fieldAddr kfo166_0 rfl) rfl rfl rfl ?_)
  refine gl_cons (gs_val (val_loadA kag24 rfl ((sees_row hpre).part 0) rfl rfl) rfl rfl rfl ?_)
  refine gl_cons (gs_val (val_move rfl) rfl rfl rfl ?_)
  refine gl_cons (gs_pure (enters kcall40 (.cons rfl (.cons rfl .nil))) (chain_spec _ _) rfl rfl rfl (fun _ _ => trivial) ?_)
  refine gl_cons (gs_store ksz24 rfl rfl rfl rfl rfl rfl (by first | exact .head | exact .tail .head | exact .tail (.tail .head) | exact .tail (.tail (.tail .head)) | exact .tail (.tail (.tail (.tail .head))) | exact .tail (.tail (.tail (.tail (.tail .head))))) (by simp) (by first | ((with_reducible refine splice_all _ _ ?_); simp; done) | (simp only [splice, stL, digL, List.take_succ_cons, List.take_zero, List.drop_succ_cons, List.drop_zero, List.length_cons, List.length_nil, Nat.reduceAdd, Nat.reduceMul, Nat.zero_add, Nat.zero_mul, List.cons_append, List.nil_append]; exact rfl)) ?_)
  refine gl_nil ?_
  refine gk_seq ?_
  refine gc_ret ?_
  refine gk_ret rfl (resv_cellA kag24 rfl (sees_mem (by repeat (first | exact .head _ | refine .tail _ ?_ | refine List.mem_append_right _ ?_))) rfl rfl .nil) (List.nil_sublist _) ?_
  exact ⟨rfl, rfl⟩

/-- (*baize/chance.Chain).Anchor -/
theorem anchor_spec (b : Nat) (s : BitVec 64) (r a : Nat) : Pure Try.prog 102 ([.pointer (some ⟨b, 0, none⟩)]).toArray (fun w => Row w [] (some ⟨b, 0, none⟩) (chL s r a)) (Dig (hChainI s (r : Int))) := by
  refine spec_walk (n := 12) Try.func102 rfl rfl rfl (fun w0 hpre => ?_)
  refine gc_seq ?_
  refine gc_region ?_
  refine gl_cons (gs_alloc kze24 rfl rfl rfl (fun b2 => ?_))
  refine gl_nil ?_
  refine gk_seq ?_
  refine gc_seq ?_
  refine gc_seq ?_
  refine gc_region ?_
  refine gl_cons (gs_val (val_move rfl) rfl rfl rfl ?_)
  refine gl_cons (gs_val (val_eqlNil kun123 rfl rfl) rfl rfl rfl ?_)
  refine gl_nil ?_
  refine gk_seq ?_
  refine gc_false rfl ?_
  refine gc_skip ?_
  refine gk_seq ?_
  refine gc_seq ?_
  refine gc_region ?_
  refine gl_cons (gs_val (val_move rfl) rfl rfl rfl ?_)
  refine gl_cons (gs_val (val_move rfl) rfl rfl rfl ?_)
  refine gl_cons (gs_val (val_nilCheck rfl) rfl rfl rfl ?_)
  refine gl_cons (gs_val (val_fieldAddr kfo166_1 rfl) rfl rfl rfl ?_)
  refine gl_cons (gs_val (val_load1 kag3 rfl ((sees_row hpre).part 8) rfl) rfl rfl rfl ?_)
  refine gl_cons (gs_pure (enters kcall132 (.cons rfl (.cons rfl .nil))) (place_spec b s r a _) rfl rfl rfl (row_of_sees (sees_row hpre)) ?_)
  refine gl_cons (gs_store ksz24 rfl rfl rfl rfl rfl rfl (by first | exact .head | exact .tail .head | exact .tail (.tail .head) | exact .tail (.tail (.tail .head)) | exact .tail (.tail (.tail (.tail .head))) | exact .tail (.tail (.tail (.tail (.tail .head))))) (by simp) (by first | ((with_reducible refine splice_all _ _ ?_); simp; done) | (simp only [splice, stL, digL, List.take_succ_cons, List.take_zero, List.drop_succ_cons, List.drop_zero, List.length_cons, List.length_nil, Nat.reduceAdd, Nat.reduceMul, Nat.zero_add, Nat.zero_mul, List.cons_append, List.nil_append]; exact rfl)) ?_)
  refine gl_nil ?_
  refine gk_seq ?_
  refine gc_ret ?_
  refine gk_ret rfl (resv_cellA kag24 rfl (sees_mem (by repeat (first | exact .head _ | refine .tail _ ?_ | refine List.mem_append_right _ ?_))) rfl rfl .nil) (List.nil_sublist _) ?_
  exact ⟨rfl, rfl⟩

/-- (*baize/chance.Chain).Anchor -/
theorem anchor_nil  : Pure Try.prog 102 ([.pointer none]).toArray (fun _ => True) (Dig 0#64) := by
  refine spec_walk (n := 12) Try.func102 rfl rfl rfl (fun w0 hpre => ?_)
  refine gc_seq ?_
  refine gc_region ?_
  refine gl_cons (gs_alloc kze24 rfl rfl rfl (fun b2 => ?_))
  refine gl_nil ?_
  refine gk_seq ?_
  refine gc_seq ?_
  refine gc_seq ?_
  refine gc_region ?_
  refine gl_cons (gs_val (val_move rfl) rfl rfl rfl ?_)
  refine gl_cons (gs_val (val_eqlNil kun123 rfl rfl) rfl rfl rfl ?_)
  refine gl_nil ?_
  refine gk_seq ?_
  refine gc_true rfl ?_
  refine gc_seq ?_
  refine gc_region ?_
  refine gl_cons (gs_val (val_buildZ kze24 rfl kar24) rfl rfl rfl ?_)
  refine gl_cons (gs_store ksz24 rfl rfl rfl rfl rfl rfl (by first | exact .head | exact .tail .head | exact .tail (.tail .head) | exact .tail (.tail (.tail .head)) | exact .tail (.tail (.tail (.tail .head))) | exact .tail (.tail (.tail (.tail (.tail .head))))) (by simp) (by first | ((with_reducible refine splice_all _ _ ?_); simp; done) | (simp only [splice, stL, digL, List.take_succ_cons, List.take_zero, List.drop_succ_cons, List.drop_zero, List.length_cons, List.length_nil, Nat.reduceAdd, Nat.reduceMul, Nat.zero_add, Nat.zero_mul, List.cons_append, List.nil_append]; exact rfl)) ?_)
  refine gl_nil ?_
  refine gk_seq ?_
  refine gc_ret ?_
  refine gk_seq_ret ?_
  refine gk_ret rfl (resv_cellA kag24 rfl (sees_mem (by repeat (first | exact .head _ | refine .tail _ ?_ | refine List.mem_append_right _ ?_))) rfl rfl .nil) (List.nil_sublist _) ?_
  exact ⟨rfl, rfl⟩

/-- (*baize/chance.Chain).Tip -/
theorem tip_spec (b : Nat) (s : BitVec 64) (r a : Nat) : Pure Try.prog 101 ([.pointer (some ⟨b, 0, none⟩)]).toArray (fun w => Row w [] (some ⟨b, 0, none⟩) (chL s r a)) (Dig (hChainI s (a : Int))) := by
  refine spec_walk (n := 12) Try.func101 rfl rfl rfl (fun w0 hpre => ?_)
  refine gc_seq ?_
  refine gc_region ?_
  refine gl_cons (gs_alloc kze24 rfl rfl rfl (fun b2 => ?_))
  refine gl_nil ?_
  refine gk_seq ?_
  refine gc_seq ?_
  refine gc_seq ?_
  refine gc_region ?_
  refine gl_cons (gs_val (val_move rfl) rfl rfl rfl ?_)
  refine gl_cons (gs_val (val_eqlNil kun123 rfl rfl) rfl rfl rfl ?_)
  refine gl_nil ?_
  refine gk_seq ?_
  refine gc_false rfl ?_
  refine gc_skip ?_
  refine gk_seq ?_
  refine gc_seq ?_
  refine gc_region ?_
  refine gl_cons (gs_val (val_move rfl) rfl rfl rfl ?_)
  refine gl_cons (gs_val (val_move rfl) rfl rfl rfl ?_)
  refine gl_cons (gs_val (val_nilCheck rfl) rfl rfl rfl ?_)
  refine gl_cons (gs_val (val_fieldAddr kfo166_2 rfl) rfl rfl rfl ?_)
  refine gl_cons (gs_val (val_load1 kag3 rfl ((sees_row hpre).part 9) rfl) rfl rfl rfl ?_)
  refine gl_cons (gs_pure (enters kcall132 (.cons rfl (.cons rfl .nil))) (place_spec b s r a _) rfl rfl rfl (row_of_sees (sees_row hpre)) ?_)
  refine gl_cons (gs_store ksz24 rfl rfl rfl rfl rfl rfl (by first | exact .head | exact .tail .head | exact .tail (.tail .head) | exact .tail (.tail (.tail .head)) | exact .tail (.tail (.tail (.tail .head))) | exact .tail (.tail (.tail (.tail (.tail .head))))) (by simp) (by first | ((with_reducible refine splice_all _ _ ?_); simp; done) | (simp only [splice, stL, digL, List.take_succ_cons, List.take_zero, List.drop_succ_cons, List.drop_zero, List.length_cons, List.length_nil, Nat.reduceAdd, Nat.reduceMul, Nat.zero_add, Nat.zero_mul, List.cons_append, List.nil_append]; exact rfl)) ?_)
  refine gl_nil ?_
  refine gk_seq ?_
  refine gc_ret ?_
  refine gk_ret rfl (resv_cellA kag24 rfl (sees_mem (by repeat (first | exact .head _ | refine .tail _ ?_ | refine List.mem_append_right _ ?_))) rfl rfl .nil) (List.nil_sublist _) ?_
  exact ⟨rfl, rfl⟩

/-- (*baize/chance.Chain).Tip -/
theorem tip_nil  : Pure Try.prog 101 ([.pointer none]).toArray (fun _ => True) (Dig 0#64) := by
  refine spec_walk (n := 12) Try.func101 rfl rfl rfl (fun w0 hpre => ?_)
  refine gc_seq ?_
  refine gc_region ?_
  refine gl_cons (gs_alloc kze24 rfl rfl rfl (fun b2 => ?_))
  refine gl_nil ?_
  refine gk_seq ?_
  refine gc_seq ?_
  refine gc_seq ?_
  refine gc_region ?_
  refine gl_cons (gs_val (val_move rfl) rfl rfl rfl ?_)
  refine gl_cons (gs_val (val_eqlNil kun123 rfl rfl) rfl rfl rfl ?_)
  refine gl_nil ?_
  refine gk_seq ?_
  refine gc_true rfl ?_
  refine gc_seq ?_
  refine gc_region ?_
  refine gl_cons (gs_val (val_buildZ kze24 rfl kar24) rfl rfl rfl ?_)
  refine gl_cons (gs_store ksz24 rfl rfl rfl rfl rfl rfl (by first | exact .head | exact .tail .head | exact .tail (.tail .head) | exact .tail (.tail (.tail .head)) | exact .tail (.tail (.tail (.tail .head))) | exact .tail (.tail (.tail (.tail (.tail .head))))) (by simp) (by first | ((with_reducible refine splice_all _ _ ?_); simp; done) | (simp only [splice, stL, digL, List.take_succ_cons, List.take_zero, List.drop_succ_cons, List.drop_zero, List.length_cons, List.length_nil, Nat.reduceAdd, Nat.reduceMul, Nat.zero_add, Nat.zero_mul, List.cons_append, List.nil_append]; exact rfl)) ?_)
  refine gl_nil ?_
  refine gk_seq ?_
  refine gc_ret ?_
  refine gk_seq_ret ?_
  refine gk_ret rfl (resv_cellA kag24 rfl (sees_mem (by repeat (first | exact .head _ | refine .tail _ ?_ | refine List.mem_append_right _ ?_))) rfl rfl .nil) (List.nil_sublist _) ?_
  exact ⟨rfl, rfl⟩

/-- (*baize/chance.Chain).Left -/
theorem left_spec (b : Nat) (s : BitVec 64) (r a : Nat) : Pure Try.prog 104 ([.pointer (some ⟨b, 0, none⟩)]).toArray (fun w => Row w [] (some ⟨b, 0, none⟩) (chL s r a)) (I64 (a : Int)) := by
  refine spec_walk (n := 9) Try.func104 rfl rfl rfl (fun w0 hpre => ?_)
  refine gc_seq ?_
  refine gc_region ?_
  refine gl_cons (gs_val (val_assign rfl) rfl rfl rfl ?_)
  refine gl_nil ?_
  refine gk_seq ?_
  refine gc_seq ?_
  refine gc_seq ?_
  refine gc_region ?_
  refine gl_cons (gs_val (val_move rfl) rfl rfl rfl ?_)
  refine gl_cons (gs_val (val_eqlNil kun123 rfl rfl) rfl rfl rfl ?_)
  refine gl_nil ?_
  refine gk_seq ?_
  refine gc_false rfl ?_
  refine gc_skip ?_
  refine gk_seq ?_
  refine gc_seq ?_
  refine gc_region ?_
  refine gl_cons (gs_val (val_move rfl) rfl rfl rfl ?_)
  refine gl_cons (gs_val (val_nilCheck rfl) rfl rfl rfl ?_)
  refine gl_cons (gs_val (val_fieldAddr kfo166_2 rfl) rfl rfl rfl ?_)
  refine gl_cons (gs_val (val_load1 kag3 rfl ((sees_row hpre).part 9) rfl) rfl rfl rfl ?_)
  refine gl_cons (gs_val (val_assign rfl) rfl rfl rfl ?_)
  refine gl_nil ?_
  refine gk_seq ?_
  refine gc_ret ?_
  refine gk_ret rfl (resv_tmp rfl .nil) (List.nil_sublist _) ?_
  exact ⟨rfl, rfl⟩

/-- (*baize/chance.Chain).Left -/
theorem left_nil  : Pure Try.prog 104 ([.pointer none]).toArray (fun _ => True) (I64 0) := by
  refine spec_walk (n := 9) Try.func104 rfl rfl rfl (fun w0 hpre => ?_)
  refine gc_seq ?_
  refine gc_region ?_
  refine gl_cons (gs_val (val_assign rfl) rfl rfl rfl ?_)
  refine gl_nil ?_
  refine gk_seq ?_
  refine gc_seq ?_
  refine gc_seq ?_
  refine gc_region ?_
  refine gl_cons (gs_val (val_move rfl) rfl rfl rfl ?_)
  refine gl_cons (gs_val (val_eqlNil kun123 rfl rfl) rfl rfl rfl ?_)
  refine gl_nil ?_
  refine gk_seq ?_
  refine gc_true rfl ?_
  refine gc_seq ?_
  refine gc_region ?_
  refine gl_cons (gs_val (val_assign rfl) rfl rfl rfl ?_)
  refine gl_nil ?_
  refine gk_seq ?_
  refine gc_ret ?_
  refine gk_seq_ret ?_
  refine gk_ret rfl (resv_tmp rfl .nil) (List.nil_sublist _) ?_
  exact ⟨rfl, rfl⟩

/-- (*baize/chance.Chain).Show -/
theorem show_go (b : Nat) (s : BitVec 64) (r a : Nat) (ha : 0 < a) (hm : a ≤ 4098) : Mods Try.prog 97 ([.pointer (some ⟨b, 0, none⟩)]).toArray (fun _ => True) b (.cells (chL s r a).toArray 166 (0, 0)) (.tuple #[Dig (shW s a), I64 (shE a)]) (.cells (chL s r (a - 1)).toArray 166 (0, 0)) := by
  refine spec_walk (n := 28) Try.func97 rfl rfl rfl (fun w0 hpre => ?_)
  refine gc_seq ?_
  refine gc_region ?_
  refine gl_cons (gs_alloc kze24 rfl rfl rfl (fun b2 => ?_))
  refine gl_cons (gs_val (val_assign rfl) rfl rfl rfl ?_)
  refine gl_nil ?_
  refine gk_seq ?_
  refine gc_seq ?_
  refine gc_block ?_
  refine gc_seq ?_
  refine gc_region ?_
  refine gl_cons (gs_val (val_move rfl) rfl rfl rfl ?_)
  refine gl_cons (gs_val (val_eqlNil kun123 rfl rfl) rfl rfl rfl ?_)
  refine gl_cons (gs_val (val_assign rfl) rfl rfl rfl ?_)
  refine gl_nil ?_
  refine gk_seq ?_
  refine gc_false rfl ?_
  refine gc_seq ?_
  refine gc_region ?_
  refine gl_cons (gs_val (val_move rfl) rfl rfl rfl ?_)
  refine gl_cons (gs_val (val_nilCheck rfl) rfl rfl rfl ?_)
  refine gl_cons (gs_val (val_fieldAddr kfo166_2 rfl) rfl rfl rfl ?_)
  refine gl_cons (gs_val (val_load1 kag3 rfl (sees_mem (by repeat (first | exact .head _ | refine .tail _ ?_ | refine List.mem_append_right _ ?_))) rfl) rfl rfl rfl ?_)
  refine gl_cons (gs_val (val_no (val_eql rfl rfl) (by omega)) rfl rfl rfl ?_)
  refine gl_cons (gs_val (val_assign rfl) rfl rfl rfl ?_)
  refine gl_nil ?_
  refine gk_seq ?_
  refine gc_false rfl ?_
  refine gc_skip ?_
  refine gk_block ?_
  refine gk_seq ?_
  refine gc_seq ?_
  refine gc_region ?_
  refine gl_cons (gs_val (val_move rfl) rfl rfl rfl ?_)
  refine gl_cons (gs_val (val_nilCheck rfl) rfl rfl rfl ?_)
  refine gl_cons (gs_val (val_fieldAddr kfo166_2 rfl) rfl rfl rfl ?_)
  refine gl_cons (gs_val (val_load1 kag3 rfl (sees_mem (by repeat (first | exact .head _ | refine .tail _ ?_ | refine List.mem_append_right _ ?_))) rfl) rfl rfl rfl ?_)
  refine gl_cons (gs_val (val_cast (v := I64 ((a - 1 : Nat) : Int)) (val_subI rfl rfl (by omega)) (congrArg I64 (by omega))) rfl rfl rfl ?_)
  refine gl_cons (gs_val (val_nilCheck rfl) rfl rfl rfl ?_)
  refine gl_cons (gs_val (val_fieldAddr kfo166_2 rfl) rfl rfl rfl ?_)
  refine gl_cons (gs_store ksz3 rfl rfl rfl rfl rfl rfl (by first | exact .head | exact .tail .head | exact .tail (.tail .head) | exact .tail (.tail (.tail .head)) | exact .tail (.tail (.tail (.tail .head))) | exact .tail (.tail (.tail (.tail (.tail .head))))) (by simp) (by first | ((with_reducible refine splice_all _ _ ?_); simp; done) | (simp only [splice, stL, digL, List.take_succ_cons, List.take_zero, List.drop_succ_cons, List.drop_zero, List.length_cons, List.length_nil, Nat.reduceAdd, Nat.reduceMul, Nat.zero_add, Nat.zero_mul, List.cons_append, List.nil_append]; exact rfl)) ?_)
  refine gl_nil ?_
  refine gk_seq ?_
  refine gc_seq ?_
  refine gc_region ?_
  refine gl_cons (gs_val (val_move rfl) rfl rfl rfl ?_)
  refine gl_cons (gs_val (val_move rfl) rfl rfl rfl ?_)
  refine gl_cons (gs_val (val_nilCheck rfl) rfl rfl rfl ?_)
  refine gl_cons (gs_val (val_fieldAddr kfo166_2 rfl) rfl rfl rfl ?_)
  refine gl_cons (gs_val (val_load1 kag3 rfl (sees_mem (by repeat (first | exact .head _ | refine .tail _ ?_ | refine List.mem_append_right _ ?_))) rfl) rfl rfl rfl ?_)
  refine gl_cons (gs_pure (enters kcall132 (.cons rfl (.cons rfl .nil))) (place_spec b s r (a - 1) _) rfl rfl rfl (row_of_sees (sees_all (by repeat (first | exact .head _ | refine .tail _ ?_ | refine List.mem_append_right _ ?_)))) ?_)
  refine gl_cons (gs_store ksz24 rfl rfl rfl rfl rfl rfl (by first | exact .head | exact .tail .head | exact .tail (.tail .head) | exact .tail (.tail (.tail .head)) | exact .tail (.tail (.tail (.tail .head))) | exact .tail (.tail (.tail (.tail (.tail .head))))) (by simp) (by first | ((with_reducible refine splice_all _ _ ?_); simp; done) | (simp only [splice, stL, digL, List.take_succ_cons, List.take_zero, List.drop_succ_cons, List.drop_zero, List.length_cons, List.length_nil, Nat.reduceAdd, Nat.reduceMul, Nat.zero_add, Nat.zero_mul, List.cons_append, List.nil_append]; exact rfl)) ?_)
  refine gl_cons (gs_val (val_assign rfl) rfl rfl rfl ?_)
  refine gl_nil ?_
  refine gk_seq ?_
  refine gc_ret ?_
  refine gk_ret rfl (resv_cellA kag24 rfl (sees_mem (by repeat (first | exact .head _ | refine .tail _ ?_ | refine List.mem_append_right _ ?_))) rfl rfl (resv_tmp rfl .nil)) (M := [⟨b, .cells (chL s r (a - 1)).toArray 166 (0, 0)⟩]) (List.singleton_sublist.2 (by repeat (first | exact .head _ | refine .tail _ ?_ | refine List.mem_append_right _ ?_))) ?_
  exact ⟨by rw [show shW s a = hChainI s ((a - 1 : Nat) : Int) from by unfold shW; rw [if_neg (by omega), chainI_nat _ _ (by omega)], show shE a = 0 from if_neg (by omega)]; rfl, rfl⟩

/-- (*baize/chance.Chain).Show -/
theorem show_end (b : Nat) (s : BitVec 64) (r a : Nat) (ha : a = 0) : Mods Try.prog 97 ([.pointer (some ⟨b, 0, none⟩)]).toArray (fun _ => True) b (.cells (chL s r a).toArray 166 (0, 0)) (.tuple #[Dig (shW s a), I64 (shE a)]) (.cells (chL s r a).toArray 166 (0, 0)) := by
  refine spec_walk (n := 28) Try.func97 rfl rfl rfl (fun w0 hpre => ?_)
  refine gc_seq ?_
  refine gc_region ?_
  refine gl_cons (gs_alloc kze24 rfl rfl rfl (fun b2 => ?_))
  refine gl_cons (gs_val (val_assign rfl) rfl rfl rfl ?_)
  refine gl_nil ?_
  refine gk_seq ?_
  refine gc_seq ?_
  refine gc_block ?_
  refine gc_seq ?_
  refine gc_region ?_
  refine gl_cons (gs_val (val_move rfl) rfl rfl rfl ?_)
  refine gl_cons (gs_val (val_eqlNil kun123 rfl rfl) rfl rfl rfl ?_)
  refine gl_cons (gs_val (val_assign rfl) rfl rfl rfl ?_)
  refine gl_nil ?_
  refine gk_seq ?_
  refine gc_false rfl ?_
  refine gc_seq ?_
  refine gc_region ?_
  refine gl_cons (gs_val (val_move rfl) rfl rfl rfl ?_)
  refine gl_cons (gs_val (val_nilCheck rfl) rfl rfl rfl ?_)
  refine gl_cons (gs_val (val_fieldAddr kfo166_2 rfl) rfl rfl rfl ?_)
  refine gl_cons (gs_val (val_load1 kag3 rfl (sees_mem (by repeat (first | exact .head _ | refine .tail _ ?_ | refine List.mem_append_right _ ?_))) rfl) rfl rfl rfl ?_)
  refine gl_cons (gs_val (val_yes (val_eql rfl rfl) (by omega)) rfl rfl rfl ?_)
  refine gl_cons (gs_val (val_assign rfl) rfl rfl rfl ?_)
  refine gl_nil ?_
  refine gk_seq ?_
  refine gc_true rfl ?_
  refine gc_seq ?_
  refine gc_region ?_
  refine gl_cons (gs_val (val_buildZ kze24 rfl kar24) rfl rfl rfl ?_)
  refine gl_cons (gs_store ksz24 rfl rfl rfl rfl rfl rfl (by first | exact .head | exact .tail .head | exact .tail (.tail .head) | exact .tail (.tail (.tail .head)) | exact .tail (.tail (.tail (.tail .head))) | exact .tail (.tail (.tail (.tail (.tail .head))))) (by simp) (by first | ((with_reducible refine splice_all _ _ ?_); simp; done) | (simp only [splice, stL, digL, List.take_succ_cons, List.take_zero, List.drop_succ_cons, List.drop_zero, List.length_cons, List.length_nil, Nat.reduceAdd, Nat.reduceMul, Nat.zero_add, Nat.zero_mul, List.cons_append, List.nil_append]; exact rfl)) ?_)
  refine gl_cons (gs_val (val_assign rfl) rfl rfl rfl ?_)
  refine gl_nil ?_
  refine gk_seq ?_
  refine gc_ret ?_
  refine gk_block_ret ?_
  refine gk_seq_ret ?_
  refine gk_ret rfl (resv_cellA kag24 rfl (sees_mem (by repeat (first | exact .head _ | refine .tail _ ?_ | refine List.mem_append_right _ ?_))) rfl rfl (resv_tmp rfl .nil)) (M := [⟨b, .cells (chL s r a).toArray 166 (0, 0)⟩]) (List.singleton_sublist.2 (by repeat (first | exact .head _ | refine .tail _ ?_ | refine List.mem_append_right _ ?_))) ?_
  exact ⟨by rw [show shW s a = 0#64 from if_pos ha, show shE a = 17 from if_pos ha]; rfl, rfl⟩

theorem show_spec (b : Nat) (s : BitVec 64) (r a : Nat) (hm : a ≤ 4098) : Mods Try.prog 97 ([.pointer (some ⟨b, 0, none⟩)]).toArray (fun _ => True) b (.cells (chL s r a).toArray 166 (0, 0)) (.tuple #[Dig (shW s a), I64 (shE a)]) (.cells (chL s r (a - 1)).toArray 166 (0, 0)) := by
  rcases Nat.eq_zero_or_pos a with h | h
  · have := show_end b s r a h
    rwa [show a - 1 = a from by omega]
  · exact show_go b s r a h hm

/-- (*baize/chance.Chain).Show -/
theorem show_nil  : Pure Try.prog 97 ([.pointer none]).toArray (fun _ => True) (.tuple #[Dig 0#64, I64 1]) := by
  refine spec_walk (n := 28) Try.func97 rfl rfl rfl (fun w0 hpre => ?_)
  refine gc_seq ?_
  refine gc_region ?_
  refine gl_cons (gs_alloc kze24 rfl rfl rfl (fun b2 => ?_))
  refine gl_cons (gs_val (val_assign rfl) rfl rfl rfl ?_)
  refine gl_nil ?_
  refine gk_seq ?_
  refine gc_seq ?_
  refine gc_block ?_
  refine gc_seq ?_
  refine gc_region ?_
  refine gl_cons (gs_val (val_move rfl) rfl rfl rfl ?_)
  refine gl_cons (gs_val (val_eqlNil kun123 rfl rfl) rfl rfl rfl ?_)
  refine gl_cons (gs_val (val_assign rfl) rfl rfl rfl ?_)
  refine gl_nil ?_
  refine gk_seq ?_
  refine gc_true rfl ?_
  refine gc_seq ?_
  refine gc_region ?_
  refine gl_cons (gs_val (val_buildZ kze24 rfl kar24) rfl rfl rfl ?_)
  refine gl_cons (gs_store ksz24 rfl rfl rfl rfl rfl rfl (by first | exact .head | exact .tail .head | exact .tail (.tail .head) | exact .tail (.tail (.tail .head)) | exact .tail (.tail (.tail (.tail .head))) | exact .tail (.tail (.tail (.tail (.tail .head))))) (by simp) (by first | ((with_reducible refine splice_all _ _ ?_); simp; done) | (simp only [splice, stL, digL, List.take_succ_cons, List.take_zero, List.drop_succ_cons, List.drop_zero, List.length_cons, List.length_nil, Nat.reduceAdd, Nat.reduceMul, Nat.zero_add, Nat.zero_mul, List.cons_append, List.nil_append]; exact rfl)) ?_)
  refine gl_cons (gs_val (val_assign rfl) rfl rfl rfl ?_)
  refine gl_nil ?_
  refine gk_seq ?_
  refine gc_ret ?_
  refine gk_block_ret ?_
  refine gk_seq_ret ?_
  refine gk_ret rfl (resv_cellA kag24 rfl (sees_mem (by repeat (first | exact .head _ | refine .tail _ ?_ | refine List.mem_append_right _ ?_))) rfl rfl (resv_tmp rfl .nil)) (List.nil_sublist _) ?_
  exact ⟨rfl, rfl⟩

/-- (*baize/chance.Chain).Answer -/
theorem answer_spec (b : Nat) (s : BitVec 64) (r a : Nat) (t : BitVec 64) (hr : r ≤ 4098) : Pure Try.prog 100 ([.pointer (some ⟨b, 0, none⟩), Dig t]).toArray (fun w => Row w [] (some ⟨b, 0, none⟩) (chL s r a)) (.tuple #[Dig (ansW s t r), I64 (ansE s t r)]) := by
  refine spec_walk (n := 33) Try.func100 rfl rfl rfl (fun w0 hpre => ?_)
  refine gc_seq ?_
  refine gc_region ?_
  refine gl_cons (gs_box rfl rfl rfl rfl (fun b3 => ?_))
  refine gl_cons (gs_alloc kze24 rfl rfl rfl (fun b4 => ?_))
  refine gl_cons (gs_val (val_assign rfl) rfl rfl rfl ?_)
  refine gl_nil ?_
  refine gk_seq ?_
  refine gc_seq ?_
  refine gc_seq ?_
  refine gc_region ?_
  refine gl_cons (gs_val (val_move rfl) rfl rfl rfl ?_)
  refine gl_cons (gs_val (val_eqlNil kun123 rfl rfl) rfl rfl rfl ?_)
  refine gl_nil ?_
  refine gk_seq ?_
  refine gc_false rfl ?_
  refine gc_skip ?_
  refine gk_seq ?_
  refine gc_seq ?_
  refine gc_region ?_
  refine gl_cons (gs_alloc kze24 rfl rfl rfl (fun b6 => ?_))
  refine gl_nil ?_
  refine gk_seq ?_
  refine gc_seq ?_
  refine gc_region ?_
  refine gl_cons (gs_val (val_assign rfl) rfl rfl rfl ?_)
  refine gl_nil ?_
  refine gk_seq ?_
  refine gc_seq ?_
  refine gc_region ?_
  refine gl_cons (gs_val (val_move rfl) rfl rfl rfl ?_)
  refine gl_cons (gs_val (val_nilCheck rfl) rfl rfl rfl ?_)
  refine gl_cons (gs_val (val_fieldAddr kfo166_0 rfl) rfl rfl rfl ?_)
  refine gl_cons (gs_val (val_loadA kag24 rfl ((sees_row hpre).part 0) rfl rfl) rfl rfl rfl ?_)
  refine gl_cons (gs_alloc kze24 rfl rfl rfl (fun b8 => ?_))
  refine gl_cons (gs_store ksz24 rfl rfl rfl rfl rfl rfl (by first | exact .head | exact .tail .head | exact .tail (.tail .head) | exact .tail (.tail (.tail .head)) | exact .tail (.tail (.tail (.tail .head))) | exact .tail (.tail (.tail (.tail (.tail .head))))) (by simp) (by first | ((with_reducible refine splice_all _ _ ?_); simp; done) | (simp only [splice, stL, digL, List.take_succ_cons, List.take_zero, List.drop_succ_cons, List.drop_zero, List.length_cons, List.length_nil, Nat.reduceAdd, Nat.reduceMul, Nat.zero_add, Nat.zero_mul, List.cons_append, List.nil_append]; exact rfl)) ?_)
  refine gl_nil ?_
  refine gk_seq ?_
  refine gc_seq ?_
  refine gc_seq ?_
  refine gc_region ?_
  refine gl_cons (gs_val (val_move rfl) rfl rfl rfl ?_)
  refine gl_cons (gs_val (val_nilCheck rfl) rfl rfl rfl ?_)
  refine gl_cons (gs_val (val_fieldAddr kfo166_1 rfl) rfl rfl rfl ?_)
  refine gl_cons (gs_val (val_load1 kag3 rfl ((sees_row hpre).part 8) rfl) rfl rfl rfl ?_)
  refine gl_cons (gs_val (val_move rfl) rfl rfl rfl ?_)
  refine gl_nil ?_
  refine gk_seq ?_
  refine gc_block ?_
  refine gc_loop (σ := Nat) (I := fun k => k ≤ r) (μ := fun k => r - k) (EI := fun k => [(7, I64 (ansE s t k)), (21, I64 (k : Int)), (3, .pointer (some ⟨b3, 0, none⟩)), (4, .pointer (some ⟨b4, 0, none⟩)), (5, .int .i64 0), (6, .pointer (some ⟨b6, 0, none⟩)), (8, .pointer (some ⟨b8, 0, none⟩)), (20, I64 (r : Int))]) (LI := fun k => [⟨b8, .cells (digL (hChain s k)).toArray 24 (0, 0)⟩, ⟨b6, .cells (digL (ansW s t k)).toArray 24 (0, 0)⟩, ⟨b4, .cells (digL 0#64).toArray 24 (0, 0)⟩, ⟨b3, .cells (digL t).toArray 24 (0, 0)⟩]) 0 ?_ ?_ ?_ ?_
  · exact Nat.zero_le _
  · exact (.cons rfl (.cons rfl (.cons rfl (.cons rfl (.cons rfl (.cons rfl (.cons rfl (.cons rfl .nil))))))))
  · rw [hChain_zero, ansW_zero]; exact fun _ h => h
  · intro k hI
    have hI : k ≤ r := hI
    refine gc_seq ?_
    refine gc_region ?_
    refine gl_cons (gs_val (val_lss rfl rfl) rfl rfl rfl ?_)
    refine gl_nil ?_
    refine gk_seq ?_
    refine gc_seq ?_
    refine gc_if rfl (fun hk => ?_) (fun hk => ?_)
    · have hk : k < r := by omega
      refine gc_skip ?_
      refine gk_seq ?_
      refine gc_seq ?_
      refine gc_block ?_
      refine gc_seq ?_
      refine gc_region ?_
      refine gl_cons (gs_val (val_loadA kag24 rfl (sees_mem (by repeat (first | exact .head _ | refine .tail _ ?_ | refine List.mem_append_right _ ?_))) rfl rfl) rfl rfl rfl ?_)
      refine gl_cons (gs_pure (enters kcall42 (.cons rfl .nil)) (one_spec _) rfl rfl rfl (fun _ _ => trivial) ?_)
      refine gl_cons (gs_alloc kze24 rfl rfl rfl (fun b9 => ?_))
      refine gl_cons (gs_store ksz24 rfl rfl rfl rfl rfl rfl (by first | exact .head | exact .tail .head | exact .tail (.tail .head) | exact .tail (.tail (.tail .head)) | exact .tail (.tail (.tail (.tail .head))) | exact .tail (.tail (.tail (.tail (.tail .head))))) (by simp) (by first | ((with_reducible refine splice_all _ _ ?_); simp; done) | (simp only [splice, stL, digL, List.take_succ_cons, List.take_zero, List.drop_succ_cons, List.drop_zero, List.length_cons, List.length_nil, Nat.reduceAdd, Nat.reduceMul, Nat.zero_add, Nat.zero_mul, List.cons_append, List.nil_append]; exact rfl)) ?_)
      refine gl_nil ?_
      refine gk_seq ?_
      refine gc_seq ?_
      refine gc_seq ?_
      refine gc_region ?_
      refine gl_cons (gs_val (val_loadA kag24 rfl (sees_mem (by repeat (first | exact .head _ | refine .tail _ ?_ | refine List.mem_append_right _ ?_))) rfl rfl) rfl rfl rfl ?_)
      refine gl_cons (gs_val (val_loadA kag24 rfl (sees_mem (by repeat (first | exact .head _ | refine .tail _ ?_ | refine List.mem_append_right _ ?_))) rfl rfl) rfl rfl rfl ?_)
      refine gl_cons (gs_val (val_eqlDig kdig24 rfl rfl rfl rfl) rfl rfl rfl ?_)
      refine gl_nil ?_
      refine gk_seq ?_
      refine gc_if rfl (fun h27 => ?_) (fun h27 => ?_)
      · have hst := ans_hit s t k (by rw [hChain_succ]; exact h27)
        refine gc_region ?_
        refine gl_cons (gs_val (val_loadA kag24 rfl (sees_mem (by repeat (first | exact .head _ | refine .tail _ ?_ | refine List.mem_append_right _ ?_))) rfl rfl) rfl rfl rfl ?_)
        refine gl_cons (gs_store ksz24 rfl rfl rfl rfl rfl rfl (by first | exact .head | exact .tail .head | exact .tail (.tail .head) | exact .tail (.tail (.tail .head)) | exact .tail (.tail (.tail (.tail .head))) | exact .tail (.tail (.tail (.tail (.tail .head))))) (by simp) (by first | ((with_reducible refine splice_all _ _ ?_); simp; done) | (simp only [splice, stL, digL, List.take_succ_cons, List.take_zero, List.drop_succ_cons, List.drop_zero, List.length_cons, List.length_nil, Nat.reduceAdd, Nat.reduceMul, Nat.zero_add, Nat.zero_mul, List.cons_append, List.nil_append]; exact rfl)) ?_)
        refine gl_cons (gs_val (val_assign rfl) rfl rfl rfl ?_)
        refine gl_nil ?_
        refine gk_seq ?_
        refine gc_region ?_
        refine gl_cons (gs_val (val_loadA kag24 rfl (sees_mem (by repeat (first | exact .head _ | refine .tail _ ?_ | refine List.mem_append_right _ ?_))) rfl rfl) rfl rfl rfl ?_)
        refine gl_cons (gs_store ksz24 rfl rfl rfl rfl rfl rfl (by first | exact .head | exact .tail .head | exact .tail (.tail .head) | exact .tail (.tail (.tail .head)) | exact .tail (.tail (.tail (.tail .head))) | exact .tail (.tail (.tail (.tail (.tail .head))))) (by simp) (by first | ((with_reducible refine splice_all _ _ ?_); simp; done) | (simp only [splice, stL, digL, List.take_succ_cons, List.take_zero, List.drop_succ_cons, List.drop_zero, List.length_cons, List.length_nil, Nat.reduceAdd, Nat.reduceMul, Nat.zero_add, Nat.zero_mul, List.cons_append, List.nil_append]; exact rfl)) ?_)
        refine gl_nil ?_
        refine gk_block ?_
        refine gk_seq ?_
        refine gc_region ?_
        refine gl_cons (gs_val (val_addI rfl rfl (by omega)) rfl rfl rfl ?_)
        refine gl_cons (gs_val (val_move rfl) rfl rfl rfl ?_)
        refine gl_nil ?_
        refine gk_again (k + 1) ?_ ?_ ?_ ?_
        · show k + 1 ≤ r; omega
        · show r - (k + 1) < r - k; omega
        · refine .cons (congrArg (fun z => some (I64 z)) hst.2.symm) ?_; repeat (first | exact .nil | refine .cons rfl ?_)
        · rw [hst.1]; exact fun _ h => h.sub (List.sublist_cons_self _ _)
      · have hst := ans_miss s t k (by rw [hChain_succ]; exact h27)
        refine gc_skip ?_
        refine gk_seq ?_
        refine gc_region ?_
        refine gl_cons (gs_val (val_loadA kag24 rfl (sees_mem (by repeat (first | exact .head _ | refine .tail _ ?_ | refine List.mem_append_right _ ?_))) rfl rfl) rfl rfl rfl ?_)
        refine gl_cons (gs_store ksz24 rfl rfl rfl rfl rfl rfl (by first | exact .head | exact .tail .head | exact .tail (.tail .head) | exact .tail (.tail (.tail .head)) | exact .tail (.tail (.tail (.tail .head))) | exact .tail (.tail (.tail (.tail (.tail .head))))) (by simp) (by first | ((with_reducible refine splice_all _ _ ?_); simp; done) | (simp only [splice, stL, digL, List.take_succ_cons, List.take_zero, List.drop_succ_cons, List.drop_zero, List.length_cons, List.length_nil, Nat.reduceAdd, Nat.reduceMul, Nat.zero_add, Nat.zero_mul, List.cons_append, List.nil_append]; exact rfl)) ?_)
        refine gl_nil ?_
        refine gk_block ?_
        refine gk_seq ?_
        refine gc_region ?_
        refine gl_cons (gs_val (val_addI rfl rfl (by omega)) rfl rfl rfl ?_)
        refine gl_cons (gs_val (val_move rfl) rfl rfl rfl ?_)
        refine gl_nil ?_
        refine gk_again (k + 1) ?_ ?_ ?_ ?_
        · show k + 1 ≤ r; omega
        · show r - (k + 1) < r - k; omega
        · refine .cons (congrArg (fun z => some (I64 z)) hst.2.symm) ?_; repeat (first | exact .nil | refine .cons rfl ?_)
        · rw [hst.1]; exact fun _ h => h.sub (List.sublist_cons_self _ _)
    · have e : r = k := by omega
      subst e
      refine gc_exit ?_
      refine gk_seq_exit ?_
      refine gk_loop_exit ?_
      refine gk_block_exit ?_
      refine gk_seq ?_
      refine gc_seq ?_
      refine gc_region ?_
      refine gl_cons (gs_val (val_loadA kag24 rfl (sees_mem (by repeat (first | exact .head _ | refine .tail _ ?_ | refine List.mem_append_right _ ?_))) rfl rfl) rfl rfl rfl ?_)
      refine gl_cons (gs_val (val_move rfl) rfl rfl rfl ?_)
      refine gl_cons (gs_store ksz24 rfl rfl rfl rfl rfl rfl (by first | exact .head | exact .tail .head | exact .tail (.tail .head) | exact .tail (.tail (.tail .head)) | exact .tail (.tail (.tail (.tail .head))) | exact .tail (.tail (.tail (.tail (.tail .head))))) (by simp) (by first | ((with_reducible refine splice_all _ _ ?_); simp; done) | (simp only [splice, stL, digL, List.take_succ_cons, List.take_zero, List.drop_succ_cons, List.drop_zero, List.length_cons, List.length_nil, Nat.reduceAdd, Nat.reduceMul, Nat.zero_add, Nat.zero_mul, List.cons_append, List.nil_append]; exact rfl)) ?_)
      refine gl_cons (gs_val (val_assign rfl) rfl rfl rfl ?_)
      refine gl_nil ?_
      refine gk_seq ?_
      refine gc_ret ?_
      refine gk_ret rfl (resv_cellA kag24 rfl (sees_mem (by repeat (first | exact .head _ | refine .tail _ ?_ | refine List.mem_append_right _ ?_))) rfl rfl (resv_tmp rfl .nil)) (List.nil_sublist _) ?_
      exact ⟨rfl, rfl⟩

/-- (*baize/chance.Chain).Answer -/
theorem answer_nil (t : BitVec 64) : Pure Try.prog 100 ([.pointer none, Dig t]).toArray (fun _ => True) (.tuple #[Dig 0#64, I64 1]) := by
  refine spec_walk (n := 33) Try.func100 rfl rfl rfl (fun w0 hpre => ?_)
  refine gc_seq ?_
  refine gc_region ?_
  refine gl_cons (gs_box rfl rfl rfl rfl (fun b3 => ?_))
  refine gl_cons (gs_alloc kze24 rfl rfl rfl (fun b4 => ?_))
  refine gl_cons (gs_val (val_assign rfl) rfl rfl rfl ?_)
  refine gl_nil ?_
  refine gk_seq ?_
  refine gc_seq ?_
  refine gc_seq ?_
  refine gc_region ?_
  refine gl_cons (gs_val (val_move rfl) rfl rfl rfl ?_)
  refine gl_cons (gs_val (val_eqlNil kun123 rfl rfl) rfl rfl rfl ?_)
  refine gl_nil ?_
  refine gk_seq ?_
  refine gc_true rfl ?_
  refine gc_seq ?_
  refine gc_region ?_
  refine gl_cons (gs_val (val_buildZ kze24 rfl kar24) rfl rfl rfl ?_)
  refine gl_cons (gs_store ksz24 rfl rfl rfl rfl rfl rfl (by first | exact .head | exact .tail .head | exact .tail (.tail .head) | exact .tail (.tail (.tail .head)) | exact .tail (.tail (.tail (.tail .head))) | exact .tail (.tail (.tail (.tail (.tail .head))))) (by simp) (by first | ((with_reducible refine splice_all _ _ ?_); simp; done) | (simp only [splice, stL, digL, List.take_succ_cons, List.take_zero, List.drop_succ_cons, List.drop_zero, List.length_cons, List.length_nil, Nat.reduceAdd, Nat.reduceMul, Nat.zero_add, Nat.zero_mul, List.cons_append, List.nil_append]; exact rfl)) ?_)
  refine gl_cons (gs_val (val_assign rfl) rfl rfl rfl ?_)
  refine gl_nil ?_
  refine gk_seq ?_
  refine gc_ret ?_
  refine gk_seq_ret ?_
  refine gk_ret rfl (resv_cellA kag24 rfl (sees_mem (by repeat (first | exact .head _ | refine .tail _ ?_ | refine List.mem_append_right _ ?_))) rfl rfl (resv_tmp rfl .nil)) (List.nil_sublist _) ?_
  exact ⟨rfl, rfl⟩

/-- (*baize/chance.Chain).Clone -/
theorem clone_spec (b : Nat) (s : BitVec 64) (r a : Nat) : Makes Try.prog 106 ([.pointer (some ⟨b, 0, none⟩)]).toArray (fun w => Row w [] (some ⟨b, 0, none⟩) (chL s r a)) (fun _ : Nat => True) (fun b => .pointer (some ⟨b, 0, none⟩)) (fun b => [⟨b, .cells (chL s r a).toArray 166 (0, 0)⟩]) := by
  refine spec_walk (n := 9) Try.func106 rfl rfl rfl (fun w0 hpre => ?_)
  refine gc_seq ?_
  refine gc_region ?_
  refine gl_cons (gs_val (val_assign rfl) rfl rfl rfl ?_)
  refine gl_nil ?_
  refine gk_seq ?_
  refine gc_seq ?_
  refine gc_seq ?_
  refine gc_region ?_
  refine gl_cons (gs_val (val_move rfl) rfl rfl rfl ?_)
  refine gl_cons (gs_val (val_eqlNil kun123 rfl rfl) rfl rfl rfl ?_)
  refine gl_nil ?_
  refine gk_seq ?_
  refine gc_false rfl ?_
  refine gc_skip ?_
  refine gk_seq ?_
  refine gc_seq ?_
  refine gc_region ?_
  refine gl_cons (gs_val (val_move rfl) rfl rfl rfl ?_)
  refine gl_cons (gs_val (val_nilCheck rfl) rfl rfl rfl ?_)
  refine gl_cons (gs_val (val_loadA kag166 rfl (sees_row hpre) rfl rfl) rfl rfl rfl ?_)
  refine gl_cons (gs_alloc kze166 rfl rfl rfl (fun b3 => ?_))
  refine gl_cons (gs_store ksz166 rfl rfl rfl rfl rfl rfl (by first | exact .head | exact .tail .head | exact .tail (.tail .head) | exact .tail (.tail (.tail .head)) | exact .tail (.tail (.tail (.tail .head))) | exact .tail (.tail (.tail (.tail (.tail .head))))) (by simp) (by first | ((with_reducible refine splice_all _ _ ?_); simp; done) | (simp only [splice, stL, digL, List.take_succ_cons, List.take_zero, List.drop_succ_cons, List.drop_zero, List.length_cons, List.length_nil, Nat.reduceAdd, Nat.reduceMul, Nat.zero_add, Nat.zero_mul, List.cons_append, List.nil_append]; exact rfl)) ?_)
  refine gl_nil ?_
  refine gk_seq ?_
  refine gc_seq ?_
  refine gc_region ?_
  refine gl_cons (gs_val (val_assign rfl) rfl rfl rfl ?_)
  refine gl_nil ?_
  refine gk_seq ?_
  refine gc_ret ?_
  refine gk_ret rfl (resv_tmp rfl .nil) (List.Sublist.refl _) ?_
  exact ⟨b3, trivial, rfl, rfl⟩

/-- (*baize/chance.Chain).Clone -/
theorem clone_nil  : Pure Try.prog 106 ([.pointer none]).toArray (fun _ => True) (.pointer none) := by
  refine spec_walk (n := 9) Try.func106 rfl rfl rfl (fun w0 hpre => ?_)
  refine gc_seq ?_
  refine gc_region ?_
  refine gl_cons (gs_val (val_assign rfl) rfl rfl rfl ?_)
  refine gl_nil ?_
  refine gk_seq ?_
  refine gc_seq ?_
  refine gc_seq ?_
  refine gc_region ?_
  refine gl_cons (gs_val (val_move rfl) rfl rfl rfl ?_)
  refine gl_cons (gs_val (val_eqlNil kun123 rfl rfl) rfl rfl rfl ?_)
  refine gl_nil ?_
  refine gk_seq ?_
  refine gc_true rfl ?_
  refine gc_seq ?_
  refine gc_region ?_
  refine gl_cons (gs_val (val_assign rfl) rfl rfl rfl ?_)
  refine gl_nil ?_
  refine gk_seq ?_
  refine gc_ret ?_
  refine gk_seq_ret ?_
  refine gk_ret rfl (resv_tmp rfl .nil) (List.nil_sublist _) ?_
  exact ⟨rfl, rfl⟩

/-- (*baize/chance.Chain).Same -/
theorem sameC_spec (b o : Nat) (s s' : BitVec 64) (r a r' a' : Nat) : Pure Try.prog 105 ([.pointer (some ⟨b, 0, none⟩), .pointer (some ⟨o, 0, none⟩)]).toArray (fun w => Row w [] (some ⟨b, 0, none⟩) (chL s r a) ∧ Row w [] (some ⟨o, 0, none⟩) (chL s' r' a')) (.bool (decide (s = s' ∧ r = r' ∧ a = a'))) := by
  refine spec_walk (n := 21) Try.func105 rfl rfl rfl (fun w0 hpre => ?_)
  refine gc_seq ?_
  refine gc_region ?_
  refine gl_cons (gs_val (val_assign rfl) rfl rfl rfl ?_)
  refine gl_nil ?_
  refine gk_seq ?_
  refine gc_seq ?_
  refine gc_seq ?_
  refine gc_region ?_
  refine gl_cons (gs_val (val_move rfl) rfl rfl rfl ?_)
  refine gl_cons (gs_val (val_eqlNil kun123 rfl rfl) rfl rfl rfl ?_)
  refine gl_cons (gs_val (val_move rfl) rfl rfl rfl ?_)
  refine gl_cons (gs_val (val_move rfl) rfl rfl rfl ?_)
  refine gl_cons (gs_val (val_eqlNil kun123 rfl rfl) rfl rfl rfl ?_)
  refine gl_cons (gs_val (val_pick_f rfl rfl) rfl rfl rfl ?_)
  refine gl_nil ?_
  refine gk_seq ?_
  refine gc_false rfl ?_
  refine gc_skip ?_
  refine gk_seq ?_
  refine gc_seq ?_
  refine gc_drawAll kmixed (by kernel_rfl) ?_
  refine gq_val (val_move rfl) rfl rfl rfl ?_
  refine gq_val (val_nilCheck rfl) rfl rfl rfl ?_
  refine gq_val (val_loadA kag166 rfl (sees_row hpre.1) rfl rfl) rfl rfl rfl ?_
  refine gq_val (val_move rfl) rfl rfl rfl ?_
  refine gq_val (val_nilCheck rfl) rfl rfl rfl ?_
  refine gq_val (val_loadA kag166 rfl (sees_row hpre.2) rfl rfl) rfl rfl rfl ?_
  refine gq_val (val_eqlCh kch166 rfl rfl) rfl rfl rfl ?_
  refine gq_val (val_assign rfl) rfl rfl rfl ?_
  refine gq_nil ?_
  refine gl_nil ?_
  refine gk_seq ?_
  refine gc_ret ?_
  refine gk_ret rfl (resv_tmp rfl .nil) (List.nil_sublist _) ?_
  exact ⟨rfl, rfl⟩

/-- (*baize/chance.Chain).Same -/
theorem sameC_cn (b : Nat) : Pure Try.prog 105 ([.pointer (some ⟨b, 0, none⟩), .pointer none]).toArray (fun _ => True) (.bool false) := by
  refine spec_walk (n := 21) Try.func105 rfl rfl rfl (fun w0 hpre => ?_)
  refine gc_seq ?_
  refine gc_region ?_
  refine gl_cons (gs_val (val_assign rfl) rfl rfl rfl ?_)
  refine gl_nil ?_
  refine gk_seq ?_
  refine gc_seq ?_
  refine gc_seq ?_
  refine gc_region ?_
  refine gl_cons (gs_val (val_move rfl) rfl rfl rfl ?_)
  refine gl_cons (gs_val (val_eqlNil kun123 rfl rfl) rfl rfl rfl ?_)
  refine gl_cons (gs_val (val_move rfl) rfl rfl rfl ?_)
  refine gl_cons (gs_val (val_move rfl) rfl rfl rfl ?_)
  refine gl_cons (gs_val (val_eqlNil kun123 rfl rfl) rfl rfl rfl ?_)
  refine gl_cons (gs_val (val_pick_f rfl rfl) rfl rfl rfl ?_)
  refine gl_nil ?_
  refine gk_seq ?_
  refine gc_true rfl ?_
  refine gc_seq ?_
  refine gc_region ?_
  refine gl_cons (gs_val (val_move rfl) rfl rfl rfl ?_)
  refine gl_cons (gs_val (val_move rfl) rfl rfl rfl ?_)
  refine gl_cons (gs_val (val_eqlNil kun123 rfl rfl) rfl rfl rfl ?_)
  refine gl_cons (gs_val (val_assign rfl) rfl rfl rfl ?_)
  refine gl_nil ?_
  refine gk_seq ?_
  refine gc_ret ?_
  refine gk_seq_ret ?_
  refine gk_ret rfl (resv_tmp rfl .nil) (List.nil_sublist _) ?_
  exact ⟨rfl, rfl⟩

/-- (*baize/chance.Chain).Same -/
theorem sameC_nn  : Pure Try.prog 105 ([.pointer none, .pointer none]).toArray (fun _ => True) (.bool true) := by
  refine spec_walk (n := 21) Try.func105 rfl rfl rfl (fun w0 hpre => ?_)
  refine gc_seq ?_
  refine gc_region ?_
  refine gl_cons (gs_val (val_assign rfl) rfl rfl rfl ?_)
  refine gl_nil ?_
  refine gk_seq ?_
  refine gc_seq ?_
  refine gc_seq ?_
  refine gc_region ?_
  refine gl_cons (gs_val (val_move rfl) rfl rfl rfl ?_)
  refine gl_cons (gs_val (val_eqlNil kun123 rfl rfl) rfl rfl rfl ?_)
  refine gl_cons (gs_val (val_move rfl) rfl rfl rfl ?_)
  refine gl_cons (gs_skip rfl rfl rfl ?_)
  refine gl_cons (gs_skip rfl rfl rfl ?_)
  refine gl_cons (gs_val (val_pick_t rfl rfl) rfl rfl rfl ?_)
  refine gl_nil ?_
  refine gk_seq ?_
  refine gc_true rfl ?_
  refine gc_seq ?_
  refine gc_region ?_
  refine gl_cons (gs_val (val_move rfl) rfl rfl rfl ?_)
  refine gl_cons (gs_val (val_move rfl) rfl rfl rfl ?_)
  refine gl_cons (gs_val (val_eqlNil kun123 rfl rfl) rfl rfl rfl ?_)
  refine gl_cons (gs_val (val_assign rfl) rfl rfl rfl ?_)
  refine gl_nil ?_
  refine gk_seq ?_
  refine gc_ret ?_
  refine gk_seq_ret ?_
  refine gk_ret rfl (resv_tmp rfl .nil) (List.nil_sublist _) ?_
  exact ⟨rfl, rfl⟩

/-- (*baize/chance.Chain).Same -/
theorem sameC_nc (b : Nat) : Pure Try.prog 105 ([.pointer none, .pointer (some ⟨b, 0, none⟩)]).toArray (fun _ => True) (.bool false) := by
  refine spec_walk (n := 21) Try.func105 rfl rfl rfl (fun w0 hpre => ?_)
  refine gc_seq ?_
  refine gc_region ?_
  refine gl_cons (gs_val (val_assign rfl) rfl rfl rfl ?_)
  refine gl_nil ?_
  refine gk_seq ?_
  refine gc_seq ?_
  refine gc_seq ?_
  refine gc_region ?_
  refine gl_cons (gs_val (val_move rfl) rfl rfl rfl ?_)
  refine gl_cons (gs_val (val_eqlNil kun123 rfl rfl) rfl rfl rfl ?_)
  refine gl_cons (gs_val (val_move rfl) rfl rfl rfl ?_)
  refine gl_cons (gs_skip rfl rfl rfl ?_)
  refine gl_cons (gs_skip rfl rfl rfl ?_)
  refine gl_cons (gs_val (val_pick_t rfl rfl) rfl rfl rfl ?_)
  refine gl_nil ?_
  refine gk_seq ?_
  refine gc_true rfl ?_
  refine gc_seq ?_
  refine gc_region ?_
  refine gl_cons (gs_val (val_move rfl) rfl rfl rfl ?_)
  refine gl_cons (gs_val (val_move rfl) rfl rfl rfl ?_)
  refine gl_cons (gs_val (val_eqlNil' kun123 rfl rfl) rfl rfl rfl ?_)
  refine gl_cons (gs_val (val_assign rfl) rfl rfl rfl ?_)
  refine gl_nil ?_
  refine gk_seq ?_
  refine gc_ret ?_
  refine gk_seq_ret ?_
  refine gk_ret rfl (resv_tmp rfl .nil) (List.nil_sublist _) ?_
  exact ⟨rfl, rfl⟩

/-- baize/chance.New -/
theorem newC_ok (s : BitVec 64) (r : Nat) (h1 : 1 ≤ r) (h2 : r ≤ 4096) : Makes Try.prog 94 ([Dig s, I64 (r : Int)]).toArray (fun _ => True) (fun _ : Nat => True) (fun b => .tuple #[.pointer (some ⟨b, 0, none⟩), I64 0]) (fun b => [⟨b, .cells (chL s r r).toArray 166 (0, 0)⟩]) := by
  refine spec_walk (n := 17) Try.func94 rfl rfl rfl (fun w0 hpre => ?_)
  refine gc_seq ?_
  refine gc_region ?_
  refine gl_cons (gs_box rfl rfl rfl rfl (fun b2 => ?_))
  refine gl_cons (gs_val (val_assign rfl) rfl rfl rfl ?_)
  refine gl_cons (gs_val (val_assign rfl) rfl rfl rfl ?_)
  refine gl_nil ?_
  refine gk_seq ?_
  refine gc_seq ?_
  refine gc_seq ?_
  refine gc_region ?_
  refine gl_cons (gs_val (val_move rfl) rfl rfl rfl ?_)
  refine gl_cons (gs_val (val_no (val_lss rfl rfl) (by omega)) rfl rfl rfl ?_)
  refine gl_cons (gs_val (val_move rfl) rfl rfl rfl ?_)
  refine gl_cons (gs_val (val_move rfl) rfl rfl rfl ?_)
  refine gl_cons (gs_val (val_no (val_gtr rfl rfl) (by omega)) rfl rfl rfl ?_)
  refine gl_cons (gs_val (val_pick_f rfl rfl) rfl rfl rfl ?_)
  refine gl_nil ?_
  refine gk_seq ?_
  refine gc_false rfl ?_
  refine gc_skip ?_
  refine gk_seq ?_
  refine gc_seq ?_
  refine gc_region ?_
  refine gl_cons (gs_val (val_loadA kag24 rfl (sees_mem (by repeat (first | exact .head _ | refine .tail _ ?_ | refine List.mem_append_right _ ?_))) rfl rfl) rfl rfl rfl ?_)
  refine gl_cons (gs_val (val_move rfl) rfl rfl rfl ?_)
  refine gl_cons (gs_val (val_move rfl) rfl rfl rfl ?_)
  refine gl_cons (gs_val (val_buildStr kze166 kpl166 (.cons rfl (.cons rfl (.cons rfl .nil))) rfl (.cons rfl rfl rfl (by simp) (by first | ((with_reducible refine splice_all _ _ ?_); simp; done) | (simp only [splice, stL, digL, List.take_succ_cons, List.take_zero, List.drop_succ_cons, List.drop_zero, List.length_cons, List.length_nil, Nat.reduceAdd, Nat.reduceMul, Nat.zero_add, Nat.zero_mul, List.cons_append, List.nil_append]; exact rfl)) (.cons rfl rfl rfl (by simp) (by first | ((with_reducible refine splice_all _ _ ?_); simp; done) | (simp only [splice, stL, digL, List.take_succ_cons, List.take_zero, List.drop_succ_cons, List.drop_zero, List.length_cons, List.length_nil, Nat.reduceAdd, Nat.reduceMul, Nat.zero_add, Nat.zero_mul, List.cons_append, List.nil_append]; exact rfl)) (.cons rfl rfl rfl (by simp) (by first | ((with_reducible refine splice_all _ _ ?_); simp; done) | (simp only [splice, stL, digL, List.take_succ_cons, List.take_zero, List.drop_succ_cons, List.drop_zero, List.length_cons, List.length_nil, Nat.reduceAdd, Nat.reduceMul, Nat.zero_add, Nat.zero_mul, List.cons_append, List.nil_append]; exact rfl)) .nil)))) rfl rfl rfl ?_)
  refine gl_cons (gs_box rfl rfl rfl rfl (fun b16 => ?_))
  refine gl_cons (gs_val (val_assign rfl) rfl rfl rfl ?_)
  refine gl_cons (gs_val (val_assign rfl) rfl rfl rfl ?_)
  refine gl_nil ?_
  refine gk_seq ?_
  refine gc_ret ?_
  refine gk_ret rfl (resv_tmp rfl (resv_tmp rfl .nil)) (List.Sublist.cons_cons _ (List.nil_sublist _)) ?_
  exact ⟨b16, trivial, rfl, rfl⟩

/-- baize/chance.New -/
theorem newC_no (s : BitVec 64) (m : Int) (h : m < 1 ∨ 4096 < m) : Pure Try.prog 94 ([Dig s, I64 m]).toArray (fun _ => True) (.tuple #[.pointer none, I64 2]) := by
  refine spec_walk (n := 17) Try.func94 rfl rfl rfl (fun w0 hpre => ?_)
  refine gc_seq ?_
  refine gc_region ?_
  refine gl_cons (gs_box rfl rfl rfl rfl (fun b2 => ?_))
  refine gl_cons (gs_val (val_assign rfl) rfl rfl rfl ?_)
  refine gl_cons (gs_val (val_assign rfl) rfl rfl rfl ?_)
  refine gl_nil ?_
  refine gk_seq ?_
  refine gc_seq ?_
  refine gc_seq ?_
  refine gc_region ?_
  refine gl_cons (gs_val (val_move rfl) rfl rfl rfl ?_)
  refine gl_cons (gs_val (val_lss rfl rfl) rfl rfl rfl ?_)
  refine gl_cons (gs_val (val_move rfl) rfl rfl rfl ?_)
  refine gx_split 8 rfl (fun h8 => ?_) (fun h8 => ?_)
  · skip
    refine gl_cons (gs_skip rfl rfl rfl ?_)
    refine gl_cons (gs_skip rfl rfl rfl ?_)
    refine gl_cons (gs_val (val_pick_t rfl rfl) rfl rfl rfl ?_)
    refine gl_nil ?_
    refine gk_seq ?_
    refine gc_true rfl ?_
    refine gc_seq ?_
    refine gc_region ?_
    refine gl_cons (gs_val (val_assign rfl) rfl rfl rfl ?_)
    refine gl_cons (gs_val (val_assign rfl) rfl rfl rfl ?_)
    refine gl_nil ?_
    refine gk_seq ?_
    refine gc_ret ?_
    refine gk_seq_ret ?_
    refine gk_ret rfl (resv_tmp rfl (resv_tmp rfl .nil)) (List.nil_sublist _) ?_
    exact ⟨rfl, rfl⟩
  · skip
    refine gl_cons (gs_val (val_move rfl) rfl rfl rfl ?_)
    refine gl_cons (gs_val (val_gtr rfl rfl) rfl rfl rfl ?_)
    refine gl_cons (gs_val (val_pick_f rfl rfl) rfl rfl rfl ?_)
    refine gl_nil ?_
    refine gk_seq ?_
    refine gc_if rfl (fun h11 => ?_) (fun h11 => ?_)
    · skip
      refine gc_seq ?_
      refine gc_region ?_
      refine gl_cons (gs_val (val_assign rfl) rfl rfl rfl ?_)
      refine gl_cons (gs_val (val_assign rfl) rfl rfl rfl ?_)
      refine gl_nil ?_
      refine gk_seq ?_
      refine gc_ret ?_
      refine gk_seq_ret ?_
      refine gk_ret rfl (resv_tmp rfl (resv_tmp rfl .nil)) (List.nil_sublist _) ?_
      exact ⟨rfl, rfl⟩
    · exfalso; omega

/-- baize/chance.Fulfils -/
theorem fulfils_spec (t x : BitVec 64) : Pure Try.prog 103 ([Dig t, Dig x]).toArray (fun _ => True) (.bool (decide (hOne x = t))) := by
  refine spec_walk (n := 9) Try.func103 rfl rfl rfl (fun w0 hpre => ?_)
  refine gc_seq ?_
  refine gc_region ?_
  refine gl_cons (gs_box rfl rfl rfl rfl (fun b2 => ?_))
  refine gl_cons (gs_box rfl rfl rfl rfl (fun b3 => ?_))
  refine gl_cons (gs_val (val_assign rfl) rfl rfl rfl ?_)
  refine gl_nil ?_
  refine gk_seq ?_
  refine gc_seq ?_
  refine gc_drawAll kmixed (by kernel_rfl) ?_
  refine gq_val (val_loadA kag24 rfl (sees_mem (by repeat (first | exact .head _ | refine .tail _ ?_ | refine List.mem_append_right _ ?_))) rfl rfl) rfl rfl rfl ?_
  refine gq_pure (enters kcall42 (.cons rfl .nil)) (one_spec _) rfl rfl rfl (fun _ _ => trivial) ?_
  refine gq_val (val_loadA kag24 rfl (sees_mem (by repeat (first | exact .head _ | refine .tail _ ?_ | refine List.mem_append_right _ ?_))) rfl rfl) rfl rfl rfl ?_
  refine gq_val (val_eqlDig kdig24 rfl rfl rfl rfl) rfl rfl rfl ?_
  refine gq_val (val_assign rfl) rfl rfl rfl ?_
  refine gq_nil ?_
  refine gl_nil ?_
  refine gk_seq ?_
  refine gc_ret ?_
  refine gk_ret rfl (resv_tmp rfl .nil) (List.nil_sublist _) ?_
  exact ⟨rfl, rfl⟩

/-- baize/baizeref18.Place -/
theorem rPlace_spec (s : BitVec 64) (r a : Nat) (k : Int) : Pure Try.prog 98 ([chV s r a, I64 k]).toArray (fun _ => True) (Dig (hChainI s k)) := by
  refine spec_walk (n := 9) Try.func98 rfl rfl rfl (fun w0 hpre => ?_)
  refine gc_seq ?_
  refine gc_region ?_
  refine gl_cons (gs_box rfl rfl rfl rfl (fun b2 => ?_))
  refine gl_cons (gs_alloc kze22 rfl rfl rfl (fun b4 => ?_))
  refine gl_nil ?_
  refine gk_seq ?_
  refine gc_seq ?_
  refine gc_region ?_
  refine gl_cons (gs_val (val_fieldAddr kfo127_0 rfl) rfl rfl rfl ?_)
  refine gl_cons (gs_val (val_loadA kag22 rfl (sees_mem (by repeat (first | exact .head _ | refine .tail _ ?_ | refine List.mem_append_right _ ?_))) rfl rfl) rfl rfl rfl ?_)
  refine gl_cons (gs_val (val_move rfl) rfl rfl rfl ?_)
  refine gl_cons (gs_pure (enters kcall41 (.cons rfl (.cons rfl .nil))) (rchain_spec _ _) rfl rfl rfl (fun _ _ => trivial) ?_)
  refine gl_cons (gs_store ksz22 rfl rfl rfl rfl rfl rfl (by first | exact .head | exact .tail .head | exact .tail (.tail .head) | exact .tail (.tail (.tail .head)) | exact .tail (.tail (.tail (.tail .head))) | exact .tail (.tail (.tail (.tail (.tail .head))))) (by simp) (by first | ((with_reducible refine splice_all _ _ ?_); simp; done) | (simp only [splice, stL, digL, List.take_succ_cons, List.take_zero, List.drop_succ_cons, List.drop_zero, List.length_cons, List.length_nil, Nat.reduceAdd, Nat.reduceMul, Nat.zero_add, Nat.zero_mul, List.cons_append, List.nil_append]; exact rfl)) ?_)
  refine gl_nil ?_
  refine gk_seq ?_
  refine gc_ret ?_
  refine gk_ret rfl (resv_cellA kag22 rfl (sees_mem (by repeat (first | exact .head _ | refine .tail _ ?_ | refine List.mem_append_right _ ?_))) rfl rfl .nil) (List.nil_sublist _) ?_
  exact ⟨rfl, rfl⟩

/-- baize/baizeref18.Show -/
theorem rShow_end (s : BitVec 64) (r a : Nat) (ha : a = 0) : Pure Try.prog 96 ([chV s r a]).toArray (fun _ => True) (.tuple #[chV s r (a - 1), Dig (shW s a), I64 (shE a)]) := by
  subst ha
  refine spec_walk (n := 19) Try.func96 rfl rfl rfl (fun w0 hpre => ?_)
  refine gc_seq ?_
  refine gc_region ?_
  refine gl_cons (gs_box rfl rfl rfl rfl (fun b1 => ?_))
  refine gl_cons (gs_alloc kze127 rfl rfl rfl (fun b2 => ?_))
  refine gl_cons (gs_alloc kze22 rfl rfl rfl (fun b3 => ?_))
  refine gl_cons (gs_val (val_assign rfl) rfl rfl rfl ?_)
  refine gl_nil ?_
  refine gk_seq ?_
  refine gc_seq ?_
  refine gc_seq ?_
  refine gc_region ?_
  refine gl_cons (gs_val (val_fieldAddr kfo127_2 rfl) rfl rfl rfl ?_)
  refine gl_cons (gs_val (val_load1 kag3 rfl (sees_mem (by repeat (first | exact .head _ | refine .tail _ ?_ | refine List.mem_append_right _ ?_))) rfl) rfl rfl rfl ?_)
  refine gl_cons (gs_val (val_yes (val_eql rfl rfl) (by omega)) rfl rfl rfl ?_)
  refine gl_nil ?_
  refine gk_seq ?_
  refine gc_true rfl ?_
  refine gc_seq ?_
  refine gc_region ?_
  refine gl_cons (gs_val (val_loadA kag127 rfl (sees_mem (by repeat (first | exact .head _ | refine .tail _ ?_ | refine List.mem_append_right _ ?_))) rfl rfl) rfl rfl rfl ?_)
  refine gl_cons (gs_val (val_buildZ kze22 rfl kar22) rfl rfl rfl ?_)
  refine gl_cons (gs_store ksz127 rfl rfl rfl rfl rfl rfl (by first | exact .head | exact .tail .head | exact .tail (.tail .head) | exact .tail (.tail (.tail .head)) | exact .tail (.tail (.tail (.tail .head))) | exact .tail (.tail (.tail (.tail (.tail .head))))) (by simp) (by first | ((with_reducible refine splice_all _ _ ?_); simp; done) | (simp only [splice, stL, digL, List.take_succ_cons, List.take_zero, List.drop_succ_cons, List.drop_zero, List.length_cons, List.length_nil, Nat.reduceAdd, Nat.reduceMul, Nat.zero_add, Nat.zero_mul, List.cons_append, List.nil_append]; exact rfl)) ?_)
  refine gl_cons (gs_store ksz22 rfl rfl rfl rfl rfl rfl (by first | exact .head | exact .tail .head | exact .tail (.tail .head) | exact .tail (.tail (.tail .head)) | exact .tail (.tail (.tail (.tail .head))) | exact .tail (.tail (.tail (.tail (.tail .head))))) (by simp) (by first | ((with_reducible refine splice_all _ _ ?_); simp; done) | (simp only [splice, stL, digL, List.take_succ_cons, List.take_zero, List.drop_succ_cons, List.drop_zero, List.length_cons, List.length_nil, Nat.reduceAdd, Nat.reduceMul, Nat.zero_add, Nat.zero_mul, List.cons_append, List.nil_append]; exact rfl)) ?_)
  refine gl_cons (gs_val (val_assign rfl) rfl rfl rfl ?_)
  refine gl_nil ?_
  refine gk_seq ?_
  refine gc_ret ?_
  refine gk_seq_ret ?_
  refine gk_ret rfl (resv_cellA kag127 rfl (sees_mem (by repeat (first | exact .head _ | refine .tail _ ?_ | refine List.mem_append_right _ ?_))) rfl rfl (resv_cellA kag22 rfl (sees_mem (by repeat (first | exact .head _ | refine .tail _ ?_ | refine List.mem_append_right _ ?_))) rfl rfl (resv_tmp rfl .nil))) (List.nil_sublist _) ?_
  exact ⟨by rw [show shW s 0 = 0#64 from if_pos rfl, show shE 0 = 17 from if_pos rfl]; rfl, rfl⟩

/-- baize/baizeref18.Show -/
theorem rShow_go (s : BitVec 64) (r a : Nat) (ha : 0 < a) (hm : a ≤ 4098) : Pure Try.prog 96 ([chV s r a]).toArray (fun _ => True) (.tuple #[chV s r (a - 1), Dig (shW s a), I64 (shE a)]) := by
  refine spec_walk (n := 19) Try.func96 rfl rfl rfl (fun w0 hpre => ?_)
  refine gc_seq ?_
  refine gc_region ?_
  refine gl_cons (gs_box rfl rfl rfl rfl (fun b1 => ?_))
  refine gl_cons (gs_alloc kze127 rfl rfl rfl (fun b2 => ?_))
  refine gl_cons (gs_alloc kze22 rfl rfl rfl (fun b3 => ?_))
  refine gl_cons (gs_val (val_assign rfl) rfl rfl rfl ?_)
  refine gl_nil ?_
  refine gk_seq ?_
  refine gc_seq ?_
  refine gc_seq ?_
  refine gc_region ?_
  refine gl_cons (gs_val (val_fieldAddr kfo127_2 rfl) rfl rfl rfl ?_)
  refine gl_cons (gs_val (val_load1 kag3 rfl (sees_mem (by repeat (first | exact .head _ | refine .tail _ ?_ | refine List.mem_append_right _ ?_))) rfl) rfl rfl rfl ?_)
  refine gl_cons (gs_val (val_no (val_eql rfl rfl) (by omega)) rfl rfl rfl ?_)
  refine gl_nil ?_
  refine gk_seq ?_
  refine gc_false rfl ?_
  refine gc_skip ?_
  refine gk_seq ?_
  refine gc_seq ?_
  refine gc_region ?_
  refine gl_cons (gs_val (val_fieldAddr kfo127_2 rfl) rfl rfl rfl ?_)
  refine gl_cons (gs_val (val_load1 kag3 rfl (sees_mem (by repeat (first | exact .head _ | refine .tail _ ?_ | refine List.mem_append_right _ ?_))) rfl) rfl rfl rfl ?_)
  refine gl_cons (gs_val (val_cast (v := I64 ((a - 1 : Nat) : Int)) (val_subI rfl rfl (by omega)) (congrArg I64 (by omega))) rfl rfl rfl ?_)
  refine gl_cons (gs_val (val_fieldAddr kfo127_2 rfl) rfl rfl rfl ?_)
  refine gl_cons (gs_store ksz3 rfl rfl rfl rfl rfl rfl (by first | exact .head | exact .tail .head | exact .tail (.tail .head) | exact .tail (.tail (.tail .head)) | exact .tail (.tail (.tail (.tail .head))) | exact .tail (.tail (.tail (.tail (.tail .head))))) (by simp) (by first | ((with_reducible refine splice_all _ _ ?_); simp; done) | (simp only [splice, stL, digL, List.take_succ_cons, List.take_zero, List.drop_succ_cons, List.drop_zero, List.length_cons, List.length_nil, Nat.reduceAdd, Nat.reduceMul, Nat.zero_add, Nat.zero_mul, List.cons_append, List.nil_append]; exact rfl)) ?_)
  refine gl_nil ?_
  refine gk_seq ?_
  refine gc_seq ?_
  refine gc_draw (m := 5) kmixed (by kernel_rfl) ?_
  refine gq_val (val_loadA kag127 rfl (sees_mem (by repeat (first | exact .head _ | refine .tail _ ?_ | refine List.mem_append_right _ ?_))) rfl rfl) rfl rfl rfl ?_
  refine gq_val (val_loadA kag127 rfl (sees_mem (by repeat (first | exact .head _ | refine .tail _ ?_ | refine List.mem_append_right _ ?_))) rfl rfl) rfl rfl rfl ?_
  refine gq_val (val_fieldAddr kfo127_2 rfl) rfl rfl rfl ?_
  refine gq_val (val_load1 kag3 rfl (sees_mem (by repeat (first | exact .head _ | refine .tail _ ?_ | refine List.mem_append_right _ ?_))) rfl) rfl rfl rfl ?_
  refine gq_pure (enters kcall98 (.cons rfl (.cons rfl .nil))) (rPlace_spec s r (a - 1) _) rfl rfl rfl (fun _ _ => trivial) ?_
  refine gq_nil ?_
  refine gl_cons (gs_store ksz127 rfl rfl rfl rfl rfl rfl (by first | exact .head | exact .tail .head | exact .tail (.tail .head) | exact .tail (.tail (.tail .head)) | exact .tail (.tail (.tail (.tail .head))) | exact .tail (.tail (.tail (.tail (.tail .head))))) (by simp) (by first | ((with_reducible refine splice_all _ _ ?_); simp; done) | (simp only [splice, stL, digL, List.take_succ_cons, List.take_zero, List.drop_succ_cons, List.drop_zero, List.length_cons, List.length_nil, Nat.reduceAdd, Nat.reduceMul, Nat.zero_add, Nat.zero_mul, List.cons_append, List.nil_append]; exact rfl)) ?_)
  refine gl_cons (gs_store ksz22 rfl rfl rfl rfl rfl rfl (by first | exact .head | exact .tail .head | exact .tail (.tail .head) | exact .tail (.tail (.tail .head)) | exact .tail (.tail (.tail (.tail .head))) | exact .tail (.tail (.tail (.tail (.tail .head))))) (by simp) (by first | ((with_reducible refine splice_all _ _ ?_); simp; done) | (simp only [splice, stL, digL, List.take_succ_cons, List.take_zero, List.drop_succ_cons, List.drop_zero, List.length_cons, List.length_nil, Nat.reduceAdd, Nat.reduceMul, Nat.zero_add, Nat.zero_mul, List.cons_append, List.nil_append]; exact rfl)) ?_)
  refine gl_cons (gs_val (val_assign rfl) rfl rfl rfl ?_)
  refine gl_nil ?_
  refine gk_seq ?_
  refine gc_ret ?_
  refine gk_ret rfl (resv_cellA kag127 rfl (sees_mem (by repeat (first | exact .head _ | refine .tail _ ?_ | refine List.mem_append_right _ ?_))) rfl rfl (resv_cellA kag22 rfl (sees_mem (by repeat (first | exact .head _ | refine .tail _ ?_ | refine List.mem_append_right _ ?_))) rfl rfl (resv_tmp rfl .nil))) (List.nil_sublist _) ?_
  exact ⟨by rw [show shW s a = hChainI s ((a - 1 : Nat) : Int) from by unfold shW; rw [if_neg (by omega), chainI_nat _ _ (by omega)], show shE a = 0 from if_neg (by omega)]; rfl, rfl⟩

theorem rShow_spec (s : BitVec 64) (r a : Nat) (hm : a ≤ 4098) : Pure Try.prog 96 ([chV s r a]).toArray (fun _ => True) (.tuple #[chV s r (a - 1), Dig (shW s a), I64 (shE a)]) := by
  rcases Nat.eq_zero_or_pos a with h | h
  · exact rShow_end s r a h
  · exact rShow_go s r a h hm

/-- baize/baizeref18.Answer -/
theorem rAnswer_spec (s : BitVec 64) (r a : Nat) (t : BitVec 64) (hr : r ≤ 4098) : Pure Try.prog 99 ([chV s r a, Dig t]).toArray (fun _ => True) (.tuple #[Dig (ansW s t r), I64 (ansE s t r)]) := by
  refine spec_walk (n := 23) Try.func99 rfl rfl rfl (fun w0 hpre => ?_)
  refine gc_seq ?_
  refine gc_region ?_
  refine gl_cons (gs_box rfl rfl rfl rfl (fun b2 => ?_))
  refine gl_cons (gs_box rfl rfl rfl rfl (fun b3 => ?_))
  refine gl_cons (gs_alloc kze22 rfl rfl rfl (fun b4 => ?_))
  refine gl_cons (gs_val (val_assign rfl) rfl rfl rfl ?_)
  refine gl_nil ?_
  refine gk_seq ?_
  refine gc_seq ?_
  refine gc_seq ?_
  refine gc_region ?_
  refine gl_cons (gs_val (val_fieldAddr kfo127_1 rfl) rfl rfl rfl ?_)
  refine gl_cons (gs_val (val_load1 kag3 rfl (sees_mem (by repeat (first | exact .head _ | refine .tail _ ?_ | refine List.mem_append_right _ ?_))) rfl) rfl rfl rfl ?_)
  refine gl_cons (gs_val (val_assign rfl) rfl rfl rfl ?_)
  refine gl_nil ?_
  refine gk_seq ?_
  refine gc_block ?_
  refine gc_loop (σ := Nat) (I := fun k => k ≤ r ∧ ansW s t r = ansW s t k ∧ ansE s t r = ansE s t k) (μ := fun k => k) (EI := fun k => [(6, I64 (k : Int)), (2, .pointer (some ⟨b2, 0, none⟩)), (3, .pointer (some ⟨b3, 0, none⟩)), (4, .pointer (some ⟨b4, 0, none⟩))]) (LI := fun k => [⟨b4, .cells (digL 0#64).toArray 22 (0, 0)⟩, ⟨b3, .cells (digL t).toArray 22 (0, 0)⟩, ⟨b2, .cells (chL s r a).toArray 127 (0, 0)⟩]) r ?_ ?_ ?_ ?_
  · exact ⟨Nat.le_refl _, rfl, rfl⟩
  · exact (.cons rfl (.cons rfl (.cons rfl (.cons rfl .nil))))
  · exact fun _ h => h
  · intro k ⟨hI, hw, he⟩
    have hI : k ≤ r := hI
    have hw : ansW s t r = ansW s t k := hw
    have he : ansE s t r = ansE s t k := he
    refine gc_seq ?_
    refine gc_seq ?_
    refine gc_region ?_
    refine gl_cons (gs_val (val_move rfl) rfl rfl rfl ?_)
    refine gl_cons (gs_val (val_geq rfl rfl) rfl rfl rfl ?_)
    refine gl_nil ?_
    refine gk_seq ?_
    refine gc_if rfl (fun hk => ?_) (fun hk => ?_)
    · have hk : 1 ≤ k := by omega
      obtain ⟨j, hj⟩ : ∃ j, k = j + 1 := ⟨k - 1, by omega⟩
      refine gc_skip ?_
      refine gk_seq ?_
      refine gc_seq ?_
      refine gc_block ?_
      refine gc_seq ?_
      refine gc_drawAll kmixed (by kernel_rfl) ?_
      refine gq_val (val_loadA kag127 rfl (sees_mem (by repeat (first | exact .head _ | refine .tail _ ?_ | refine List.mem_append_right _ ?_))) rfl rfl) rfl rfl rfl ?_
      refine gq_val (val_move rfl) rfl rfl rfl ?_
      refine gq_pure (enters kcall98 (.cons rfl (.cons rfl .nil))) (rPlace_spec s r a _) rfl rfl rfl (fun _ _ => trivial) ?_
      refine gq_val (val_loadA kag22 rfl (sees_mem (by repeat (first | exact .head _ | refine .tail _ ?_ | refine List.mem_append_right _ ?_))) rfl rfl) rfl rfl rfl ?_
      refine gq_val (val_eqlDig kdig22 rfl rfl rfl rfl) rfl rfl rfl ?_
      refine gq_nil ?_
      refine gl_nil ?_
      refine gk_seq ?_
      refine gc_if rfl (fun h17 => ?_) (fun h17 => ?_)
      · have hst : ansW s t k = hChain s j ∧ ansE s t k = 0 := by rw [hj]; exact ans_hit s t j (by rw [← hj, ← chainI_nat _ _ (by omega)]; exact h17)
        refine gc_seq ?_
        refine gc_region ?_
        refine gl_cons (gs_val (val_loadA kag127 rfl (sees_mem (by repeat (first | exact .head _ | refine .tail _ ?_ | refine List.mem_append_right _ ?_))) rfl rfl) rfl rfl rfl ?_)
        refine gl_cons (gs_val (val_move rfl) rfl rfl rfl ?_)
        refine gl_cons (gs_val (val_cast (v := I64 (j : Int)) (val_subI rfl rfl (by omega)) (congrArg I64 (by omega))) rfl rfl rfl ?_)
        refine gl_cons (gs_pure (enters kcall98 (.cons rfl (.cons rfl .nil))) (rPlace_spec s r a _) rfl rfl rfl (fun _ _ => trivial) ?_)
        refine gl_cons (gs_store ksz22 rfl rfl rfl rfl rfl rfl (by first | exact .head | exact .tail .head | exact .tail (.tail .head) | exact .tail (.tail (.tail .head)) | exact .tail (.tail (.tail (.tail .head))) | exact .tail (.tail (.tail (.tail (.tail .head))))) (by simp) (by first | ((with_reducible refine splice_all _ _ ?_); simp; done) | (simp only [splice, stL, digL, List.take_succ_cons, List.take_zero, List.drop_succ_cons, List.drop_zero, List.length_cons, List.length_nil, Nat.reduceAdd, Nat.reduceMul, Nat.zero_add, Nat.zero_mul, List.cons_append, List.nil_append]; exact rfl)) ?_)
        refine gl_cons (gs_val (val_assign rfl) rfl rfl rfl ?_)
        refine gl_nil ?_
        refine gk_seq ?_
        refine gc_ret ?_
        refine gk_block_ret ?_
        refine gk_seq_ret ?_
        refine gk_loop_ret ?_
        refine gk_block_ret ?_
        refine gk_seq_ret ?_
        refine gk_ret rfl (resv_cellA kag22 rfl (sees_mem (by repeat (first | exact .head _ | refine .tail _ ?_ | refine List.mem_append_right _ ?_))) rfl rfl (resv_tmp rfl .nil)) (List.nil_sublist _) ?_
        first | exact ⟨by rw [hw, he, hst.1, hst.2, chainI_nat _ _ (by omega)]; rfl, rfl⟩ | exact ⟨by rw [hw, he, ansW_zero]; rfl, rfl⟩
      · have hst : ansW s t k = ansW s t (k - 1) ∧ ansE s t k = ansE s t (k - 1) := by rw [hj]; exact ans_miss s t j (by rw [← hj, ← chainI_nat _ _ (by omega)]; exact h17)
        refine gc_skip ?_
        refine gk_block ?_
        refine gk_seq ?_
        refine gc_region ?_
        refine gl_cons (gs_val (val_move rfl) rfl rfl rfl ?_)
        refine gl_cons (gs_val (val_subI rfl rfl (by omega)) rfl rfl rfl ?_)
        refine gl_cons (gs_val (val_assign rfl) rfl rfl rfl ?_)
        refine gl_nil ?_
        refine gk_again (k - 1) ?_ ?_ ?_ ?_
        · exact ⟨by show k - 1 ≤ r; omega, hw.trans hst.1, he.trans hst.2⟩
        · show k - 1 < k; omega
        · refine .cons (congrArg (fun z => some (I64 z)) (by show (k : Int) - 1 = ((k - 1 : Nat) : Int); omega)) ?_; repeat (first | exact .nil | refine .cons rfl ?_)
        · exact fun _ h => h
    · have e : k = 0 := by omega
      subst e
      refine gc_exit ?_
      refine gk_seq_exit ?_
      refine gk_loop_exit ?_
      refine gk_block_exit ?_
      refine gk_seq ?_
      refine gc_seq ?_
      refine gc_region ?_
      refine gl_cons (gs_val (val_buildZ kze22 rfl kar22) rfl rfl rfl ?_)
      refine gl_cons (gs_store ksz22 rfl rfl rfl rfl rfl rfl (by first | exact .head | exact .tail .head | exact .tail (.tail .head) | exact .tail (.tail (.tail .head)) | exact .tail (.tail (.tail (.tail .head))) | exact .tail (.tail (.tail (.tail (.tail .head))))) (by simp) (by first | ((with_reducible refine splice_all _ _ ?_); simp; done) | (simp only [splice, stL, digL, List.take_succ_cons, List.take_zero, List.drop_succ_cons, List.drop_zero, List.length_cons, List.length_nil, Nat.reduceAdd, Nat.reduceMul, Nat.zero_add, Nat.zero_mul, List.cons_append, List.nil_append]; exact rfl)) ?_)
      refine gl_cons (gs_val (val_assign rfl) rfl rfl rfl ?_)
      refine gl_nil ?_
      refine gk_seq ?_
      refine gc_ret ?_
      refine gk_ret rfl (resv_cellA kag22 rfl (sees_mem (by repeat (first | exact .head _ | refine .tail _ ?_ | refine List.mem_append_right _ ?_))) rfl rfl (resv_tmp rfl .nil)) (List.nil_sublist _) ?_
      first | exact ⟨by rw [hw, he, hst.1, hst.2, chainI_nat _ _ (by omega)]; rfl, rfl⟩ | exact ⟨by rw [hw, he, ansW_zero]; rfl, rfl⟩

/-- baize/baizelaw18.told -/
theorem told18_spec (b : Nat) (s : BitVec 64) (r a : Nat) (hr : r ≤ 4098) (ha : a ≤ 4098) : Pure Try.prog 95 ([.pointer (some ⟨b, 0, none⟩), chV s r a]).toArray (fun w => Row w [] (some ⟨b, 0, none⟩) (chL s r a)) (.bool true) := by
  refine spec_walk (n := 28) Try.func95 rfl rfl rfl (fun w0 hpre => ?_)
  refine gc_seq ?_
  refine gc_region ?_
  refine gl_cons (gs_box rfl rfl rfl rfl (fun b3 => ?_))
  refine gl_cons (gs_val (val_assign rfl) rfl rfl rfl ?_)
  refine gl_nil ?_
  refine gk_seq ?_
  refine gc_seq ?_
  refine gc_drawAll kmixed (by kernel_rfl) ?_
  refine gq_val (val_move rfl) rfl rfl rfl ?_
  refine gq_pure (enters kcall102 (.cons rfl .nil)) (anchor_spec b s r a) rfl rfl rfl (row_of_sees (sees_row hpre)) ?_
  refine gq_val (val_loadA kag127 rfl (sees_mem (by repeat (first | exact .head _ | refine .tail _ ?_ | refine List.mem_append_right _ ?_))) rfl rfl) rfl rfl rfl ?_
  refine gq_val (val_fieldAddr kfo127_1 rfl) rfl rfl rfl ?_
  refine gq_val (val_load1 kag3 rfl (sees_mem (by repeat (first | exact .head _ | refine .tail _ ?_ | refine List.mem_append_right _ ?_))) rfl) rfl rfl rfl ?_
  refine gq_pure (enters kcall98 (.cons rfl (.cons rfl .nil))) (rPlace_spec s r a _) rfl rfl rfl (fun _ _ => trivial) ?_
  refine gq_val (val_yes (val_eqlDig kdig22 rfl rfl rfl rfl) rfl) rfl rfl rfl ?_
  refine gq_val (val_move rfl) rfl rfl rfl ?_
  refine gq_val (val_move rfl) rfl rfl rfl ?_
  refine gq_pure (enters kcall101 (.cons rfl .nil)) (tip_spec b s r a) rfl rfl rfl (row_of_sees (sees_row hpre)) ?_
  refine gq_val (val_loadA kag127 rfl (sees_mem (by repeat (first | exact .head _ | refine .tail _ ?_ | refine List.mem_append_right _ ?_))) rfl rfl) rfl rfl rfl ?_
  refine gq_val (val_fieldAddr kfo127_2 rfl) rfl rfl rfl ?_
  refine gq_val (val_load1 kag3 rfl (sees_mem (by repeat (first | exact .head _ | refine .tail _ ?_ | refine List.mem_append_right _ ?_))) rfl) rfl rfl rfl ?_
  refine gq_pure (enters kcall98 (.cons rfl (.cons rfl .nil))) (rPlace_spec s r a _) rfl rfl rfl (fun _ _ => trivial) ?_
  refine gq_val (val_yes (val_eqlDig kdig22 rfl rfl rfl rfl) rfl) rfl rfl rfl ?_
  refine gq_val (val_pick_t rfl rfl) rfl rfl rfl ?_
  refine gq_val (val_move rfl) rfl rfl rfl ?_
  refine gq_val (val_move rfl) rfl rfl rfl ?_
  refine gq_pure (enters kcall104 (.cons rfl .nil)) (left_spec b s r a) rfl rfl rfl (row_of_sees (sees_row hpre)) ?_
  refine gq_val (val_fieldAddr kfo127_2 rfl) rfl rfl rfl ?_
  refine gq_val (val_load1 kag3 rfl (sees_mem (by repeat (first | exact .head _ | refine .tail _ ?_ | refine List.mem_append_right _ ?_))) rfl) rfl rfl rfl ?_
  refine gq_val (val_yes (val_eql rfl rfl) rfl) rfl rfl rfl ?_
  refine gq_val (val_pick_t rfl rfl) rfl rfl rfl ?_
  refine gq_val (val_assign rfl) rfl rfl rfl ?_
  refine gq_nil ?_
  refine gl_nil ?_
  refine gk_seq ?_
  refine gc_ret ?_
  refine gk_ret rfl (resv_tmp rfl .nil) (List.nil_sublist _) ?_
  exact ⟨rfl, rfl⟩

theorem sameC_yes (b o : Nat) (s s' : BitVec 64) (r a r' a' : Nat) (h : (s = s' ∧ r = r' ∧ a = a')) : Pure Try.prog 105 ([.pointer (some ⟨b, 0, none⟩), .pointer (some ⟨o, 0, none⟩)]).toArray (fun w => Row w [] (some ⟨b, 0, none⟩) (chL s r a) ∧ Row w [] (some ⟨o, 0, none⟩) (chL s' r' a')) (.bool true) := by
  have := sameC_spec b o s s' r a r' a'
  rwa [decide_eq_true h] at this

theorem sameC_no (b o : Nat) (s s' : BitVec 64) (r a r' a' : Nat) (h : ¬ (s = s' ∧ r = r' ∧ a = a')) : Pure Try.prog 105 ([.pointer (some ⟨b, 0, none⟩), .pointer (some ⟨o, 0, none⟩)]).toArray (fun w => Row w [] (some ⟨b, 0, none⟩) (chL s r a) ∧ Row w [] (some ⟨o, 0, none⟩) (chL s' r' a')) (.bool false) := by
  have := sameC_spec b o s s' r a r' a'
  rwa [decide_eq_false h] at this

end Go.Proofs.Ythmepionpjkcgaa
