/- The walk of functions of the program: what each computes, for every input. -/
import Derived.Test.YtddckbhlfeegoaaWBFacts
import Derived.Test.YtddckbhlfeegoaaWBveil
namespace Go.Proofs.Ytddckbhlfeegoaa
open Go Go.Eng
set_option linter.unusedVariables false
set_option linter.unusedSimpArgs false

/-- baize/tower.number -/
theorem number_yes (k : Int) (hk : 0 ≤ k ∧ k ≤ 1099511627776) : Pure Try.prog 119 ([I64 k]).toArray (fun _ => True) (.bool true) := by
  refine spec_walk (n := 9) Try.func119 rfl rfl rfl (fun w0 hpre => ?_)
  refine gc_seq ?_
  refine gc_region ?_
  refine gl_cons (gs_val (val_assign rfl) rfl rfl rfl ?_)
  refine gl_nil ?_
  refine gk_seq ?_
  refine gc_seq ?_
  refine gc_region ?_
  refine gl_cons (gs_val (val_move rfl) rfl rfl rfl ?_)
  refine gl_cons (gs_val (val_yes (val_geq rfl rfl) (by omega)) rfl rfl rfl ?_)
  refine gl_cons (gs_val (val_move rfl) rfl rfl rfl ?_)
  refine gl_cons (gs_val (val_move rfl) rfl rfl rfl ?_)
  refine gl_cons (gs_val (val_yes (val_leq rfl rfl) (by omega)) rfl rfl rfl ?_)
  refine gl_cons (gs_val (val_pick_t rfl rfl) rfl rfl rfl ?_)
  refine gl_cons (gs_val (val_assign rfl) rfl rfl rfl ?_)
  refine gl_nil ?_
  refine gk_seq ?_
  refine gc_ret ?_
  refine gk_ret rfl (resv_tmp rfl .nil) (List.nil_sublist _) ?_
  exact ⟨rfl, rfl⟩

/-- baize/tower.number -/
theorem number_no (k : Int) (hk : ¬ (0 ≤ k ∧ k ≤ 1099511627776)) : Pure Try.prog 119 ([I64 k]).toArray (fun _ => True) (.bool false) := by
  refine spec_walk (n := 9) Try.func119 rfl rfl rfl (fun w0 hpre => ?_)
  refine gc_seq ?_
  refine gc_region ?_
  refine gl_cons (gs_val (val_assign rfl) rfl rfl rfl ?_)
  refine gl_nil ?_
  refine gk_seq ?_
  refine gc_seq ?_
  refine gc_region ?_
  refine gl_cons (gs_val (val_move rfl) rfl rfl rfl ?_)
  refine gl_cons (gs_val (val_geq rfl rfl) rfl rfl rfl ?_)
  refine gl_cons (gs_val (val_move rfl) rfl rfl rfl ?_)
  refine gx_split 5 rfl (fun h5 => ?_) (fun h5 => ?_)
  · skip
    refine gl_cons (gs_val (val_move rfl) rfl rfl rfl ?_)
    refine gl_cons (gs_val (val_leq rfl rfl) rfl rfl rfl ?_)
    refine gl_cons (gs_val (val_pick_t rfl rfl) rfl rfl rfl ?_)
    refine gl_cons (gs_val (val_assign rfl) rfl rfl rfl ?_)
    refine gl_nil ?_
    refine gk_seq ?_
    refine gc_ret ?_
    refine gk_ret rfl (resv_tmp rfl .nil) (List.nil_sublist _) ?_
    first | rfl | exact ⟨congrArg Value.bool (decide_eq_false (by omega)), rfl⟩ | exact ⟨rfl, rfl⟩
  · skip
    refine gl_cons (gs_skip rfl rfl rfl ?_)
    refine gl_cons (gs_skip rfl rfl rfl ?_)
    refine gl_cons (gs_val (val_pick_f rfl rfl) rfl rfl rfl ?_)
    refine gl_cons (gs_val (val_assign rfl) rfl rfl rfl ?_)
    refine gl_nil ?_
    refine gk_seq ?_
    refine gc_ret ?_
    refine gk_ret rfl (resv_tmp rfl .nil) (List.nil_sublist _) ?_
    first | rfl | exact ⟨congrArg Value.bool (decide_eq_false (by omega)), rfl⟩ | exact ⟨rfl, rfl⟩

/-- baize/tower.Hint -/
theorem hint_spec (n : BitVec 64) : Pure Try.prog 49 ([Dig n]).toArray (fun _ => True) (Dig (hintW n)) := by
  refine spec_walk (n := 5) Try.func49 rfl rfl rfl (fun w0 hpre => ?_)
  refine gc_seq ?_
  refine gc_region ?_
  refine gl_cons (gs_box rfl rfl rfl rfl (fun b1 => ?_))
  refine gl_cons (gs_alloc kze31 rfl rfl rfl (fun b2 => ?_))
  refine gl_nil ?_
  refine gk_seq ?_
  refine gc_seq ?_
  refine gc_region ?_
  refine gl_cons (gs_val (val_loadA kag31 rfl (sees_mem (by repeat (first | exact .head _ | refine .tail _ ?_ | refine List.mem_append_right _ ?_))) rfl rfl) rfl rfl rfl ?_)
  refine gl_cons (gs_pure (enters kcall130 (.cons rfl (.cons rfl .nil))) (word_spec _ ⟨#[104, 105, 110, 116]⟩ (by decide)) rfl rfl rfl (fun _ _ => trivial) ?_)
  refine gl_cons (gs_store ksz31 rfl rfl rfl rfl rfl rfl (by first | exact .head | exact .tail .head | exact .tail (.tail .head) | exact .tail (.tail (.tail .head)) | exact .tail (.tail (.tail (.tail .head))) | exact .tail (.tail (.tail (.tail (.tail .head))))) (by simp) (by first | ((with_reducible refine splice_all _ _ ?_); simp; done) | (simp only [splice, stL, digL, List.take_succ_cons, List.take_zero, List.drop_succ_cons, List.drop_zero, List.length_cons, List.length_nil, Nat.reduceAdd, Nat.reduceMul, Nat.zero_add, Nat.zero_mul, List.cons_append, List.nil_append]; exact rfl)) ?_)
  refine gl_nil ?_
  refine gk_seq ?_
  refine gc_ret ?_
  refine gk_ret rfl (resv_cellA kag31 rfl (sees_mem (by repeat (first | exact .head _ | refine .tail _ ?_ | refine List.mem_append_right _ ?_))) rfl rfl .nil) (List.nil_sublist _) ?_
  exact ⟨rfl, rfl⟩

/-- baize/baizeref51.Hint -/
theorem rhint_spec (n : BitVec 64) : Pure Try.prog 50 ([Dig n]).toArray (fun _ => True) (Dig (hintW n)) := by
  refine spec_walk (n := 5) Try.func50 rfl rfl rfl (fun w0 hpre => ?_)
  refine gc_seq ?_
  refine gc_region ?_
  refine gl_cons (gs_box rfl rfl rfl rfl (fun b1 => ?_))
  refine gl_cons (gs_alloc kze30 rfl rfl rfl (fun b2 => ?_))
  refine gl_nil ?_
  refine gk_seq ?_
  refine gc_seq ?_
  refine gc_region ?_
  refine gl_cons (gs_val (val_loadA kag30 rfl (sees_mem (by repeat (first | exact .head _ | refine .tail _ ?_ | refine List.mem_append_right _ ?_))) rfl rfl) rfl rfl rfl ?_)
  refine gl_cons (gs_pure (enters kcall131 (.cons rfl (.cons rfl .nil))) (rword_spec _ ⟨#[104, 105, 110, 116]⟩ (by decide)) rfl rfl rfl (fun _ _ => trivial) ?_)
  refine gl_cons (gs_store ksz30 rfl rfl rfl rfl rfl rfl (by first | exact .head | exact .tail .head | exact .tail (.tail .head) | exact .tail (.tail (.tail .head)) | exact .tail (.tail (.tail (.tail .head))) | exact .tail (.tail (.tail (.tail (.tail .head))))) (by simp) (by first | ((with_reducible refine splice_all _ _ ?_); simp; done) | (simp only [splice, stL, digL, List.take_succ_cons, List.take_zero, List.drop_succ_cons, List.drop_zero, List.length_cons, List.length_nil, Nat.reduceAdd, Nat.reduceMul, Nat.zero_add, Nat.zero_mul, List.cons_append, List.nil_append]; exact rfl)) ?_)
  refine gl_nil ?_
  refine gk_seq ?_
  refine gc_ret ?_
  refine gk_ret rfl (resv_cellA kag30 rfl (sees_mem (by repeat (first | exact .head _ | refine .tail _ ?_ | refine List.mem_append_right _ ?_))) rfl rfl .nil) (List.nil_sublist _) ?_
  exact ⟨rfl, rfl⟩

/-- baize/tower.key -/
theorem key_spec (n : BitVec 64) : Pure Try.prog 121 ([Dig n]).toArray (fun _ => True) (Dig (keyW n)) := by
  refine spec_walk (n := 5) Try.func121 rfl rfl rfl (fun w0 hpre => ?_)
  refine gc_seq ?_
  refine gc_region ?_
  refine gl_cons (gs_box rfl rfl rfl rfl (fun b1 => ?_))
  refine gl_cons (gs_alloc kze31 rfl rfl rfl (fun b2 => ?_))
  refine gl_nil ?_
  refine gk_seq ?_
  refine gc_seq ?_
  refine gc_region ?_
  refine gl_cons (gs_val (val_loadA kag31 rfl (sees_mem (by repeat (first | exact .head _ | refine .tail _ ?_ | refine List.mem_append_right _ ?_))) rfl rfl) rfl rfl rfl ?_)
  refine gl_cons (gs_pure (enters kcall130 (.cons rfl (.cons rfl .nil))) (word_spec _ ⟨#[98, 111, 120]⟩ (by decide)) rfl rfl rfl (fun _ _ => trivial) ?_)
  refine gl_cons (gs_store ksz31 rfl rfl rfl rfl rfl rfl (by first | exact .head | exact .tail .head | exact .tail (.tail .head) | exact .tail (.tail (.tail .head)) | exact .tail (.tail (.tail (.tail .head))) | exact .tail (.tail (.tail (.tail (.tail .head))))) (by simp) (by first | ((with_reducible refine splice_all _ _ ?_); simp; done) | (simp only [splice, stL, digL, List.take_succ_cons, List.take_zero, List.drop_succ_cons, List.drop_zero, List.length_cons, List.length_nil, Nat.reduceAdd, Nat.reduceMul, Nat.zero_add, Nat.zero_mul, List.cons_append, List.nil_append]; exact rfl)) ?_)
  refine gl_nil ?_
  refine gk_seq ?_
  refine gc_ret ?_
  refine gk_ret rfl (resv_cellA kag31 rfl (sees_mem (by repeat (first | exact .head _ | refine .tail _ ?_ | refine List.mem_append_right _ ?_))) rfl rfl .nil) (List.nil_sublist _) ?_
  exact ⟨rfl, rfl⟩

/-- baize/baizeref51.Key -/
theorem rkey_spec (n : BitVec 64) : Pure Try.prog 129 ([Dig n]).toArray (fun _ => True) (Dig (keyW n)) := by
  refine spec_walk (n := 5) Try.func129 rfl rfl rfl (fun w0 hpre => ?_)
  refine gc_seq ?_
  refine gc_region ?_
  refine gl_cons (gs_box rfl rfl rfl rfl (fun b1 => ?_))
  refine gl_cons (gs_alloc kze30 rfl rfl rfl (fun b2 => ?_))
  refine gl_nil ?_
  refine gk_seq ?_
  refine gc_seq ?_
  refine gc_region ?_
  refine gl_cons (gs_val (val_loadA kag30 rfl (sees_mem (by repeat (first | exact .head _ | refine .tail _ ?_ | refine List.mem_append_right _ ?_))) rfl rfl) rfl rfl rfl ?_)
  refine gl_cons (gs_pure (enters kcall131 (.cons rfl (.cons rfl .nil))) (rword_spec _ ⟨#[98, 111, 120]⟩ (by decide)) rfl rfl rfl (fun _ _ => trivial) ?_)
  refine gl_cons (gs_store ksz30 rfl rfl rfl rfl rfl rfl (by first | exact .head | exact .tail .head | exact .tail (.tail .head) | exact .tail (.tail (.tail .head)) | exact .tail (.tail (.tail (.tail .head))) | exact .tail (.tail (.tail (.tail (.tail .head))))) (by simp) (by first | ((with_reducible refine splice_all _ _ ?_); simp; done) | (simp only [splice, stL, digL, List.take_succ_cons, List.take_zero, List.drop_succ_cons, List.drop_zero, List.length_cons, List.length_nil, Nat.reduceAdd, Nat.reduceMul, Nat.zero_add, Nat.zero_mul, List.cons_append, List.nil_append]; exact rfl)) ?_)
  refine gl_nil ?_
  refine gk_seq ?_
  refine gc_ret ?_
  refine gk_ret rfl (resv_cellA kag30 rfl (sees_mem (by repeat (first | exact .head _ | refine .tail _ ?_ | refine List.mem_append_right _ ?_))) rfl rfl .nil) (List.nil_sublist _) ?_
  exact ⟨rfl, rfl⟩

/-- baize/tower.Make -/
theorem make_num (d : BitVec 64) (k : Int) (ba : Option Addr) (n cap : Nat) (hk : ¬ (0 ≤ k ∧ k ≤ 1099511627776)) : Pure Try.prog 39 ([Dig d, I64 k, .slice ba n cap]).toArray (fun _ => True) (.tuple #[apV 0#64 0 nilS, I64 2]) := by
  refine spec_walk (n := 26) Try.func39 rfl rfl rfl (fun w0 hpre => ?_)
  refine gc_seq ?_
  refine gc_region ?_
  refine gl_cons (gs_box rfl rfl rfl rfl (fun b3 => ?_))
  refine gl_cons (gs_alloc kze70 rfl rfl rfl (fun b6 => ?_))
  refine gl_cons (gs_val (val_assign rfl) rfl rfl rfl ?_)
  refine gl_nil ?_
  refine gk_seq ?_
  refine gc_seq ?_
  refine gc_block ?_
  refine gc_seq ?_
  refine gc_region ?_
  refine gl_cons (gs_val (val_move rfl) rfl rfl rfl ?_)
  refine gl_cons (gs_pure (enters kcall119 (.cons rfl .nil)) (number_no k hk) rfl rfl rfl (fun _ _ => trivial) ?_)
  refine gl_cons (gs_val (val_not rfl) rfl rfl rfl ?_)
  refine gl_cons (gs_val (val_assign rfl) rfl rfl rfl ?_)
  refine gl_nil ?_
  refine gk_seq ?_
  refine gc_true rfl ?_
  refine gc_seq ?_
  refine gc_region ?_
  refine gl_cons (gs_val (val_buildStr kze70 kpl70 .nil rfl .nil) rfl rfl rfl ?_)
  refine gl_cons (gs_store ksz70 rfl rfl rfl rfl rfl rfl (by first | exact .head | exact .tail .head | exact .tail (.tail .head) | exact .tail (.tail (.tail .head)) | exact .tail (.tail (.tail (.tail .head))) | exact .tail (.tail (.tail (.tail (.tail .head))))) (by simp) (by first | ((with_reducible refine splice_all _ _ ?_); simp; done) | (simp only [splice, stL, digL, List.take_succ_cons, List.take_zero, List.drop_succ_cons, List.drop_zero, List.length_cons, List.length_nil, Nat.reduceAdd, Nat.reduceMul, Nat.zero_add, Nat.zero_mul, List.cons_append, List.nil_append]; exact rfl)) ?_)
  refine gl_cons (gs_val (val_assign rfl) rfl rfl rfl ?_)
  refine gl_nil ?_
  refine gk_seq ?_
  refine gc_ret ?_
  refine gk_block_ret ?_
  refine gk_seq_ret ?_
  refine gk_ret rfl (resv_cellA kag70 rfl (sees_mem (by repeat (first | exact .head _ | refine .tail _ ?_ | refine List.mem_append_right _ ?_))) rfl rfl (resv_tmp rfl .nil)) (List.nil_sublist _) ?_
  exact ⟨rfl, rfl⟩

/-- baize/tower.Make -/
theorem make_long (d : BitVec 64) (k : Int) (ba : Option Addr) (n cap : Nat) (hk : 0 ≤ k ∧ k ≤ 1099511627776) (hn : 32768 < n) : Pure Try.prog 39 ([Dig d, I64 k, .slice ba n cap]).toArray (fun _ => True) (.tuple #[apV 0#64 0 nilS, I64 5]) := by
  refine spec_walk (n := 26) Try.func39 rfl rfl rfl (fun w0 hpre => ?_)
  refine gc_seq ?_
  refine gc_region ?_
  refine gl_cons (gs_box rfl rfl rfl rfl (fun b3 => ?_))
  refine gl_cons (gs_alloc kze70 rfl rfl rfl (fun b6 => ?_))
  refine gl_cons (gs_val (val_assign rfl) rfl rfl rfl ?_)
  refine gl_nil ?_
  refine gk_seq ?_
  refine gc_seq ?_
  refine gc_block ?_
  refine gc_seq ?_
  refine gc_region ?_
  refine gl_cons (gs_val (val_move rfl) rfl rfl rfl ?_)
  refine gl_cons (gs_pure (enters kcall119 (.cons rfl .nil)) (number_yes k hk) rfl rfl rfl (fun _ _ => trivial) ?_)
  refine gl_cons (gs_val (val_not rfl) rfl rfl rfl ?_)
  refine gl_cons (gs_val (val_assign rfl) rfl rfl rfl ?_)
  refine gl_nil ?_
  refine gk_seq ?_
  refine gc_false rfl ?_
  refine gc_seq ?_
  refine gc_region ?_
  refine gl_cons (gs_val (val_move rfl) rfl rfl rfl ?_)
  refine gl_cons (gs_val (val_lenSli ksl54 rfl) rfl rfl rfl ?_)
  refine gl_cons (gs_val (val_yes (val_gtr rfl rfl) (by omega)) rfl rfl rfl ?_)
  refine gl_cons (gs_val (val_assign rfl) rfl rfl rfl ?_)
  refine gl_nil ?_
  refine gk_seq ?_
  refine gc_true rfl ?_
  refine gc_seq ?_
  refine gc_region ?_
  refine gl_cons (gs_val (val_buildStr kze70 kpl70 .nil rfl .nil) rfl rfl rfl ?_)
  refine gl_cons (gs_store ksz70 rfl rfl rfl rfl rfl rfl (by first | exact .head | exact .tail .head | exact .tail (.tail .head) | exact .tail (.tail (.tail .head)) | exact .tail (.tail (.tail (.tail .head))) | exact .tail (.tail (.tail (.tail (.tail .head))))) (by simp) (by first | ((with_reducible refine splice_all _ _ ?_); simp; done) | (simp only [splice, stL, digL, List.take_succ_cons, List.take_zero, List.drop_succ_cons, List.drop_zero, List.length_cons, List.length_nil, Nat.reduceAdd, Nat.reduceMul, Nat.zero_add, Nat.zero_mul, List.cons_append, List.nil_append]; exact rfl)) ?_)
  refine gl_cons (gs_val (val_assign rfl) rfl rfl rfl ?_)
  refine gl_nil ?_
  refine gk_seq ?_
  refine gc_ret ?_
  refine gk_block_ret ?_
  refine gk_seq_ret ?_
  refine gk_ret rfl (resv_cellA kag70 rfl (sees_mem (by repeat (first | exact .head _ | refine .tail _ ?_ | refine List.mem_append_right _ ?_))) rfl rfl (resv_tmp rfl .nil)) (List.nil_sublist _) ?_
  exact ⟨rfl, rfl⟩

/-- baize/tower.Make -/
theorem make_ok (d : BitVec 64) (k : Int) (ba : Option Addr) (n cap : Nat) (l : List UInt8) (hn : l.length = n) (hk : 0 ≤ k ∧ k ≤ 1099511627776) (hl : n ≤ 32768) (hcap : n ≤ cap) : Makes Try.prog 39 ([Dig d, I64 k, .slice ba n cap]).toArray (fun w => Row w [] ba (l.map U8)) (fun s : Option Addr × Nat × List Ent × Nat => Own s.2.2.2 1 s.1 (sealL (keyW d) l).length s.2.1 ((sealL (keyW d) l).map U8) s.2.2.1) (fun s => .tuple #[apV (hintW d) k (.slice s.1 (sealL (keyW d) l).length s.2.1), I64 0]) (fun s => s.2.2.1) := by
  refine spec_walk (n := 26) Try.func39 rfl rfl rfl (fun w0 hpre => ?_)
  refine gc_seq ?_
  refine gc_region ?_
  refine gl_cons (gs_box rfl rfl rfl rfl (fun b3 => ?_))
  refine gl_cons (gs_alloc kze70 rfl rfl rfl (fun b6 => ?_))
  refine gl_cons (gs_val (val_assign rfl) rfl rfl rfl ?_)
  refine gl_nil ?_
  refine gk_seq ?_
  refine gc_seq ?_
  refine gc_block ?_
  refine gc_seq ?_
  refine gc_region ?_
  refine gl_cons (gs_val (val_move rfl) rfl rfl rfl ?_)
  refine gl_cons (gs_pure (enters kcall119 (.cons rfl .nil)) (number_yes k hk) rfl rfl rfl (fun _ _ => trivial) ?_)
  refine gl_cons (gs_val (val_not rfl) rfl rfl rfl ?_)
  refine gl_cons (gs_val (val_assign rfl) rfl rfl rfl ?_)
  refine gl_nil ?_
  refine gk_seq ?_
  refine gc_false rfl ?_
  refine gc_seq ?_
  refine gc_region ?_
  refine gl_cons (gs_val (val_move rfl) rfl rfl rfl ?_)
  refine gl_cons (gs_val (val_lenSli ksl54 rfl) rfl rfl rfl ?_)
  refine gl_cons (gs_val (val_no (val_gtr rfl rfl) (by omega)) rfl rfl rfl ?_)
  refine gl_cons (gs_val (val_assign rfl) rfl rfl rfl ?_)
  refine gl_nil ?_
  refine gk_seq ?_
  refine gc_false rfl ?_
  refine gc_skip ?_
  refine gk_block ?_
  refine gk_seq ?_
  refine gc_seq ?_
  refine ga_start (m := 10) (ls := [false, false, false, false, false, false, false, false, false, false]) kmixed rfl rfl ?_
  apply share0  (m' := 5) (ls' := [true, true, true, true, false, true, false, false, false, false])
  · intro hD0
    apply share0  (m' := 6) (ls' := [true, false, true, true, false, true, false, false, false, false])
    · intro hD1
      refine ga_take (i := 2) (ls' := [false, false, true, false, false, false, false, false, false, false]) rfl (by kernel_rfl) rfl (fun _ _ _ => val_move rfl) rfl rfl rfl ?_
      refine ga_take (i := 5) (ls' := [false, false, true, false, false, true, false, false, false, false]) rfl (by kernel_rfl) rfl (fun _ _ _ => val_move rfl) rfl rfl rfl ?_
      refine ga_branch (rs := [0, 3]) (by kernel_rfl) rfl (.cons (ls' := [true, false, true, false, false, true, false, false, false, false]) rfl rfl ?_ (.cons (ls' := [false, false, true, true, false, true, false, false, false, false]) rfl rfl ?_ .nil))
      · skip
        refine gs_val (val_loadA kag31 rfl (sees_mem (by repeat (first | exact .head _ | refine .tail _ ?_ | refine List.mem_append_right _ ?_))) rfl rfl) rfl rfl rfl ?_
        refine ga_branch (rs := [1, 3]) (by kernel_rfl) rfl (.cons (ls' := [true, true, true, false, false, true, false, false, false, false]) rfl rfl ?_ (.cons (ls' := [true, false, true, true, false, true, false, false, false, false]) rfl rfl ?_ .nil))
        · skip
          refine gs_pure (enters kcall49 (.cons rfl .nil)) (hint_spec d) rfl rfl rfl (fun _ _ => trivial) ?_
          refine ga_branch (rs := [3]) (by kernel_rfl) rfl (.cons (ls' := [true, true, true, true, false, true, false, false, false, false]) rfl rfl ?_ .nil)
          refine gs_val (val_loadA kag31 rfl (sees_mem (by repeat (first | exact .head _ | refine .tail _ ?_ | refine List.mem_append_right _ ?_))) rfl rfl) rfl rfl rfl ?_
          refine gx_env (F := [(0, _), (1, _), (2, _), (3, _), (6, _), (7, _), (8, _), (9, _), (10, _), (11, _), (13, _), (14, _), (15, _), (16, _), (18, _), (19, _), (20, _), (21, _), (23, _)]) (.cons rfl (.cons rfl (.cons rfl (.cons rfl (.cons rfl (.cons rfl (.cons rfl (.cons rfl (.cons rfl (.cons rfl (.cons rfl (.cons rfl (.cons rfl (.cons rfl (.cons rfl (.cons rfl (.cons rfl (.cons rfl (.cons rfl .nil))))))))))))))))))) (gx_perm (by first | exact .refl _ | (repeat (first | exact .refl _ | refine perm_take (by first | exact .head | exact .tail .head | exact .tail (.tail .head) | exact .tail (.tail (.tail .head)) | exact .tail (.tail (.tail (.tail .head))) | exact .tail (.tail (.tail (.tail (.tail .head))))) ?_ | refine perm_takeL (by repeat (first | exact .app | exact .here | apply TakeL.tail | apply TakeL.appr)) ?_ | refine perm_takeX (by repeat (first | exact .cons .head .nil | apply TakeL.tail | apply TakeL.appr)) ?_))) (hD0  True.intro))
        · skip
          refine gs_val (val_loadA kag31 rfl (sees_mem (by repeat (first | exact .head _ | refine .tail _ ?_ | refine List.mem_append_right _ ?_))) rfl rfl) rfl rfl rfl ?_
          refine gx_env (F := [(0, _), (1, _), (2, _), (3, _), (6, _), (7, _), (8, _), (9, _), (10, _), (11, _), (13, _), (14, _), (15, _), (16, _), (18, _), (20, _), (21, _), (23, _)]) (.cons rfl (.cons rfl (.cons rfl (.cons rfl (.cons rfl (.cons rfl (.cons rfl (.cons rfl (.cons rfl (.cons rfl (.cons rfl (.cons rfl (.cons rfl (.cons rfl (.cons rfl (.cons rfl (.cons rfl (.cons rfl .nil)))))))))))))))))) (gx_perm (by first | exact .refl _ | (repeat (first | exact .refl _ | refine perm_take (by first | exact .head | exact .tail .head | exact .tail (.tail .head) | exact .tail (.tail (.tail .head)) | exact .tail (.tail (.tail (.tail .head))) | exact .tail (.tail (.tail (.tail (.tail .head))))) ?_ | refine perm_takeL (by repeat (first | exact .app | exact .here | apply TakeL.tail | apply TakeL.appr)) ?_ | refine perm_takeX (by repeat (first | exact .cons .head .nil | apply TakeL.tail | apply TakeL.appr)) ?_))) (hD1  True.intro))
      · skip
        refine gs_val (val_loadA kag31 rfl (sees_mem (by repeat (first | exact .head _ | refine .tail _ ?_ | refine List.mem_append_right _ ?_))) rfl rfl) rfl rfl rfl ?_
        refine ga_branch (rs := [0]) (by kernel_rfl) rfl (.cons (ls' := [true, false, true, true, false, true, false, false, false, false]) rfl rfl ?_ .nil)
        refine gs_val (val_loadA kag31 rfl (sees_mem (by repeat (first | exact .head _ | refine .tail _ ?_ | refine List.mem_append_right _ ?_))) rfl rfl) rfl rfl rfl ?_
        refine gx_env (F := [(0, _), (1, _), (2, _), (3, _), (6, _), (7, _), (8, _), (9, _), (10, _), (11, _), (13, _), (14, _), (15, _), (16, _), (18, _), (20, _), (21, _), (23, _)]) (.cons rfl (.cons rfl (.cons rfl (.cons rfl (.cons rfl (.cons rfl (.cons rfl (.cons rfl (.cons rfl (.cons rfl (.cons rfl (.cons rfl (.cons rfl (.cons rfl (.cons rfl (.cons rfl (.cons rfl (.cons rfl .nil)))))))))))))))))) (gx_perm (by first | exact .refl _ | (repeat (first | exact .refl _ | refine perm_take (by first | exact .head | exact .tail .head | exact .tail (.tail .head) | exact .tail (.tail (.tail .head)) | exact .tail (.tail (.tail (.tail .head))) | exact .tail (.tail (.tail (.tail (.tail .head))))) ?_ | refine perm_takeL (by repeat (first | exact .app | exact .here | apply TakeL.tail | apply TakeL.appr)) ?_ | refine perm_takeX (by repeat (first | exact .cons .head .nil | apply TakeL.tail | apply TakeL.appr)) ?_))) (hD1  True.intro))
    · rintro  _
      refine ga_branch (rs := [1]) (by kernel_rfl) rfl (.cons (ls' := [true, true, true, true, false, true, false, false, false, false]) rfl rfl ?_ .nil)
      refine gs_pure (enters kcall49 (.cons rfl .nil)) (hint_spec d) rfl rfl rfl (fun _ _ => trivial) ?_
      refine gx_env (F := [(0, _), (1, _), (2, _), (3, _), (6, _), (7, _), (8, _), (9, _), (10, _), (11, _), (13, _), (14, _), (15, _), (16, _), (18, _), (19, _), (20, _), (21, _), (23, _)]) (.cons rfl (.cons rfl (.cons rfl (.cons rfl (.cons rfl (.cons rfl (.cons rfl (.cons rfl (.cons rfl (.cons rfl (.cons rfl (.cons rfl (.cons rfl (.cons rfl (.cons rfl (.cons rfl (.cons rfl (.cons rfl (.cons rfl .nil))))))))))))))))))) (gx_perm (by first | exact .refl _ | (repeat (first | exact .refl _ | refine perm_take (by first | exact .head | exact .tail .head | exact .tail (.tail .head) | exact .tail (.tail (.tail .head)) | exact .tail (.tail (.tail (.tail .head))) | exact .tail (.tail (.tail (.tail (.tail .head))))) ?_ | refine perm_takeL (by repeat (first | exact .app | exact .here | apply TakeL.tail | apply TakeL.appr)) ?_ | refine perm_takeX (by repeat (first | exact .cons .head .nil | apply TakeL.tail | apply TakeL.appr)) ?_))) (hD0  True.intro))
  · rintro  _
    refine ga_branch (rs := [4]) (by kernel_rfl) rfl (.cons (ls' := [true, true, true, true, true, true, false, false, false, false]) rfl rfl ?_ .nil)
    refine gs_pure (enters kcall121 (.cons rfl .nil)) (key_spec d) rfl rfl rfl (fun _ _ => trivial) ?_
    refine ga_branch (rs := [6]) (by kernel_rfl) rfl (.cons (ls' := [true, true, true, true, true, true, true, false, false, false]) rfl rfl ?_ .nil)
    refine gs_makes (enters kcall120 (.cons rfl (.cons rfl .nil))) (seal_ok (keyW d) ba n cap l hn (by omega) hcap) rfl rfl rfl (row_of_sees (sees_row hpre)) (fun ⟨ba24, c24, N24, e24⟩ h24 => ?_)
    have o24 : Own e24 1 ba24 (sealL (keyW d) l).length c24 ((sealL (keyW d) l).map U8) N24 := h24
    refine gx_perm List.perm_append_comm ?_
    refine ga_take (i := 7) (ls' := [true, true, true, true, true, true, true, true, false, false]) rfl (by kernel_rfl) rfl (fun _ _ _ => val_buildStr kze70 kpl70 (.cons rfl (.cons rfl (.cons rfl .nil))) rfl (.cons rfl rfl rfl (by simp) (by first | ((with_reducible refine splice_all _ _ ?_); simp; done) | (simp only [splice, stL, digL, List.take_succ_cons, List.take_zero, List.drop_succ_cons, List.drop_zero, List.length_cons, List.length_nil, Nat.reduceAdd, Nat.reduceMul, Nat.zero_add, Nat.zero_mul, List.cons_append, List.nil_append]; exact rfl)) (.cons rfl rfl rfl (by simp) (by first | ((with_reducible refine splice_all _ _ ?_); simp; done) | (simp only [splice, stL, digL, List.take_succ_cons, List.take_zero, List.drop_succ_cons, List.drop_zero, List.length_cons, List.length_nil, Nat.reduceAdd, Nat.reduceMul, Nat.zero_add, Nat.zero_mul, List.cons_append, List.nil_append]; exact rfl)) (.cons rfl rfl rfl (by simp) (by first | ((with_reducible refine splice_all _ _ ?_); simp; done) | (simp only [splice, stL, digL, List.take_succ_cons, List.take_zero, List.drop_succ_cons, List.drop_zero, List.length_cons, List.length_nil, Nat.reduceAdd, Nat.reduceMul, Nat.zero_add, Nat.zero_mul, List.cons_append, List.nil_append]; exact rfl)) .nil)))) rfl rfl rfl ?_
    refine ga_branch (rs := [8]) (by kernel_rfl) rfl (.cons (ls' := [true, true, true, true, true, true, true, true, true, false]) rfl rfl ?_ .nil)
    refine gs_store ksz70 rfl rfl rfl rfl rfl rfl (by first | exact .head | exact .tail .head | exact .tail (.tail .head) | exact .tail (.tail (.tail .head)) | exact .tail (.tail (.tail (.tail .head))) | exact .tail (.tail (.tail (.tail (.tail .head))))) (by simp) (by first | ((with_reducible refine splice_all _ _ ?_); simp; done) | (simp only [splice, stL, digL, List.take_succ_cons, List.take_zero, List.drop_succ_cons, List.drop_zero, List.length_cons, List.length_nil, Nat.reduceAdd, Nat.reduceMul, Nat.zero_add, Nat.zero_mul, List.cons_append, List.nil_append]; exact rfl)) ?_
    refine ga_take (i := 9) (ls' := [true, true, true, true, true, true, true, true, true, true]) rfl (by kernel_rfl) rfl (fun _ _ _ => val_assign rfl) rfl rfl rfl ?_
    refine ga_done (by kernel_rfl) ?_
    refine gk_seq ?_
    refine gc_ret ?_
    refine gk_ret rfl (resv_cellA kag70 rfl (sees_mem (by repeat (first | exact .head _ | refine .tail _ ?_ | refine List.mem_append_right _ ?_))) rfl rfl (resv_tmp rfl .nil)) (.cons _ (.cons _ (List.Sublist.refl _))) ?_
    exact ⟨(ba24, c24, N24, e24), o24, rfl, rfl⟩

end Go.Proofs.Ytddckbhlfeegoaa
