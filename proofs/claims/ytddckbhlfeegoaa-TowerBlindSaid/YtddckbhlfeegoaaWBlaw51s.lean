/- The walk of functions of the program: what each computes, for every input. -/
import Derived.Test.YtddckbhlfeegoaaWBFacts
import Derived.Test.YtddckbhlfeegoaaWBlaw51m
namespace Go.Proofs.Ytddckbhlfeegoaa
open Go Go.Eng
set_option linter.unusedVariables false
set_option linter.unusedSimpArgs false

set_option maxRecDepth 8000 in
/-- baize/baizelaw51.TowerSees -/
theorem towerSees_big (d o : BitVec 64) (k g : Int) (s : ByteArray) (lg : Bool) (hs : 300 < s.size) : Pure Try.prog 11 ([Dig d, Dig o, .agg ([I64 k, I64 g, .string s, .bool lg] : List Value).toArray]).toArray (fun _ => True) (.bool true) := by
  refine spec_walk (n := 101) Try.func11 rfl rfl rfl (fun w0 hpre => ?_)
  refine gc_seq ?_
  refine gc_region ?_
  refine gl_cons (gs_box rfl rfl rfl rfl (fun b3 => ?_))
  refine gl_cons (gs_box rfl rfl rfl rfl (fun b4 => ?_))
  refine gl_cons (gs_box rfl rfl rfl rfl (fun b5 => ?_))
  refine gl_cons (gs_val (val_assign rfl) rfl rfl rfl ?_)
  refine gl_nil ?_
  refine gk_seq ?_
  refine gc_seq ?_
  refine gc_drawAll kmixed (by kernel_rfl) ?_
  refine gq_val (val_fieldAddr kfo83_0 rfl) rfl rfl rfl ?_
  refine gq_val (val_load1 kag3 rfl (sees_mem (by repeat (first | exact .head _ | refine .tail _ ?_ | refine List.mem_append_right _ ?_))) rfl) rfl rfl rfl ?_
  refine gq_val (val_fieldAddr kfo83_1 rfl) rfl rfl rfl ?_
  refine gq_val (val_load1 kag3 rfl (sees_mem (by repeat (first | exact .head _ | refine .tail _ ?_ | refine List.mem_append_right _ ?_))) rfl) rfl rfl rfl ?_
  refine gq_val (val_fieldAddr kfo83_2 rfl) rfl rfl rfl ?_
  refine gq_val (val_load1 kag9 rfl (sees_mem (by repeat (first | exact .head _ | refine .tail _ ?_ | refine List.mem_append_right _ ?_))) rfl) rfl rfl rfl ?_
  refine gq_val (val_assign rfl) rfl rfl rfl ?_
  refine gq_val (val_assign rfl) rfl rfl rfl ?_
  refine gq_val (val_assign rfl) rfl rfl rfl ?_
  refine gq_nil ?_
  refine gl_nil ?_
  refine gk_seq ?_
  refine gc_seq ?_
  refine gc_seq ?_
  refine gc_drawAll kmixed (by kernel_rfl) ?_
  refine gq_val (val_move rfl) rfl rfl rfl ?_
  refine gq_val (val_lenStr kun9 rfl) rfl rfl rfl ?_
  refine gq_val (val_yes (val_gtr rfl rfl) (by omega)) rfl rfl rfl ?_
  refine gq_val (val_move rfl) rfl rfl rfl ?_
  refine gq_skip rfl rfl rfl ?_
  refine gq_skip rfl rfl rfl ?_
  refine gq_skip rfl rfl rfl ?_
  refine gq_skip rfl rfl rfl ?_
  refine gq_skip rfl rfl rfl ?_
  refine gq_val (val_pick_t rfl rfl) rfl rfl rfl ?_
  refine gq_nil ?_
  refine gl_nil ?_
  refine gk_seq ?_
  refine gc_true rfl ?_
  refine gc_seq ?_
  refine gc_region ?_
  refine gl_cons (gs_pure (enters kcall47 .nil) (told51_spec) rfl rfl rfl (fun _ _ => trivial) ?_)
  refine gl_cons (gs_val (val_assign rfl) rfl rfl rfl ?_)
  refine gl_nil ?_
  refine gk_seq ?_
  refine gc_ret ?_
  refine gk_seq_ret ?_
  refine gk_ret rfl (resv_tmp rfl .nil) (List.nil_sublist _) ?_
  exact ⟨rfl, rfl⟩

set_option maxRecDepth 8000 in
/-- baize/baizelaw51.TowerSees -/
theorem towerSees_same (d o : BitVec 64) (k g : Int) (s : ByteArray) (lg : Bool) (hs : s.size ≤ 300) (he : hintW d = hintW o) : Pure Try.prog 11 ([Dig d, Dig o, .agg ([I64 k, I64 g, .string s, .bool lg] : List Value).toArray]).toArray (fun _ => True) (.bool true) := by
  refine spec_walk (n := 101) Try.func11 rfl rfl rfl (fun w0 hpre => ?_)
  refine gc_seq ?_
  refine gc_region ?_
  refine gl_cons (gs_box rfl rfl rfl rfl (fun b3 => ?_))
  refine gl_cons (gs_box rfl rfl rfl rfl (fun b4 => ?_))
  refine gl_cons (gs_box rfl rfl rfl rfl (fun b5 => ?_))
  refine gl_cons (gs_val (val_assign rfl) rfl rfl rfl ?_)
  refine gl_nil ?_
  refine gk_seq ?_
  refine gc_seq ?_
  refine gc_drawAll kmixed (by kernel_rfl) ?_
  refine gq_val (val_fieldAddr kfo83_0 rfl) rfl rfl rfl ?_
  refine gq_val (val_load1 kag3 rfl (sees_mem (by repeat (first | exact .head _ | refine .tail _ ?_ | refine List.mem_append_right _ ?_))) rfl) rfl rfl rfl ?_
  refine gq_val (val_fieldAddr kfo83_1 rfl) rfl rfl rfl ?_
  refine gq_val (val_load1 kag3 rfl (sees_mem (by repeat (first | exact .head _ | refine .tail _ ?_ | refine List.mem_append_right _ ?_))) rfl) rfl rfl rfl ?_
  refine gq_val (val_fieldAddr kfo83_2 rfl) rfl rfl rfl ?_
  refine gq_val (val_load1 kag9 rfl (sees_mem (by repeat (first | exact .head _ | refine .tail _ ?_ | refine List.mem_append_right _ ?_))) rfl) rfl rfl rfl ?_
  refine gq_val (val_assign rfl) rfl rfl rfl ?_
  refine gq_val (val_assign rfl) rfl rfl rfl ?_
  refine gq_val (val_assign rfl) rfl rfl rfl ?_
  refine gq_nil ?_
  refine gl_nil ?_
  refine gk_seq ?_
  refine gc_seq ?_
  refine gc_seq ?_
  refine gc_drawAll kmixed (by kernel_rfl) ?_
  refine gq_val (val_move rfl) rfl rfl rfl ?_
  refine gq_val (val_lenStr kun9 rfl) rfl rfl rfl ?_
  refine gq_val (val_no (val_gtr rfl rfl) (by omega)) rfl rfl rfl ?_
  refine gq_val (val_move rfl) rfl rfl rfl ?_
  refine gq_val (val_loadA kag30 rfl (sees_mem (by repeat (first | exact .head _ | refine .tail _ ?_ | refine List.mem_append_right _ ?_))) rfl rfl) rfl rfl rfl ?_
  refine gq_pure (enters kcall50 (.cons rfl .nil)) (rhint_spec d) rfl rfl rfl (fun _ _ => trivial) ?_
  refine gq_val (val_loadA kag30 rfl (sees_mem (by repeat (first | exact .head _ | refine .tail _ ?_ | refine List.mem_append_right _ ?_))) rfl rfl) rfl rfl rfl ?_
  refine gq_pure (enters kcall50 (.cons rfl .nil)) (rhint_spec o) rfl rfl rfl (fun _ _ => trivial) ?_
  refine gq_val (val_yes (val_eqlDig kdig30 rfl rfl rfl rfl) he) rfl rfl rfl ?_
  refine gq_val (val_pick_f rfl rfl) rfl rfl rfl ?_
  refine gq_nil ?_
  refine gl_nil ?_
  refine gk_seq ?_
  refine gc_true rfl ?_
  refine gc_seq ?_
  refine gc_region ?_
  refine gl_cons (gs_pure (enters kcall47 .nil) (told51_spec) rfl rfl rfl (fun _ _ => trivial) ?_)
  refine gl_cons (gs_val (val_assign rfl) rfl rfl rfl ?_)
  refine gl_nil ?_
  refine gk_seq ?_
  refine gc_ret ?_
  refine gk_seq_ret ?_
  refine gk_ret rfl (resv_tmp rfl .nil) (List.nil_sublist _) ?_
  exact ⟨rfl, rfl⟩

set_option maxRecDepth 8000 in
/-- baize/baizelaw51.TowerSees -/
theorem towerSees_no (d o : BitVec 64) (k g : Int) (s : ByteArray) (lg : Bool) (hs : s.size ≤ 300) (he : ¬ hintW d = hintW o) (hk : ¬ (0 ≤ k ∧ k ≤ 1099511627776)) : Pure Try.prog 11 ([Dig d, Dig o, .agg ([I64 k, I64 g, .string s, .bool lg] : List Value).toArray]).toArray (fun _ => True) (.bool true) := by
  refine spec_walk (n := 101) Try.func11 rfl rfl rfl (fun w0 hpre => ?_)
  refine gc_seq ?_
  refine gc_region ?_
  refine gl_cons (gs_box rfl rfl rfl rfl (fun b3 => ?_))
  refine gl_cons (gs_box rfl rfl rfl rfl (fun b4 => ?_))
  refine gl_cons (gs_box rfl rfl rfl rfl (fun b5 => ?_))
  refine gl_cons (gs_val (val_assign rfl) rfl rfl rfl ?_)
  refine gl_nil ?_
  refine gk_seq ?_
  refine gc_seq ?_
  refine gc_drawAll kmixed (by kernel_rfl) ?_
  refine gq_val (val_fieldAddr kfo83_0 rfl) rfl rfl rfl ?_
  refine gq_val (val_load1 kag3 rfl (sees_mem (by repeat (first | exact .head _ | refine .tail _ ?_ | refine List.mem_append_right _ ?_))) rfl) rfl rfl rfl ?_
  refine gq_val (val_fieldAddr kfo83_1 rfl) rfl rfl rfl ?_
  refine gq_val (val_load1 kag3 rfl (sees_mem (by repeat (first | exact .head _ | refine .tail _ ?_ | refine List.mem_append_right _ ?_))) rfl) rfl rfl rfl ?_
  refine gq_val (val_fieldAddr kfo83_2 rfl) rfl rfl rfl ?_
  refine gq_val (val_load1 kag9 rfl (sees_mem (by repeat (first | exact .head _ | refine .tail _ ?_ | refine List.mem_append_right _ ?_))) rfl) rfl rfl rfl ?_
  refine gq_val (val_assign rfl) rfl rfl rfl ?_
  refine gq_val (val_assign rfl) rfl rfl rfl ?_
  refine gq_val (val_assign rfl) rfl rfl rfl ?_
  refine gq_nil ?_
  refine gl_nil ?_
  refine gk_seq ?_
  refine gc_seq ?_
  refine gc_seq ?_
  refine gc_drawAll kmixed (by kernel_rfl) ?_
  refine gq_val (val_move rfl) rfl rfl rfl ?_
  refine gq_val (val_lenStr kun9 rfl) rfl rfl rfl ?_
  refine gq_val (val_no (val_gtr rfl rfl) (by omega)) rfl rfl rfl ?_
  refine gq_val (val_move rfl) rfl rfl rfl ?_
  refine gq_val (val_loadA kag30 rfl (sees_mem (by repeat (first | exact .head _ | refine .tail _ ?_ | refine List.mem_append_right _ ?_))) rfl rfl) rfl rfl rfl ?_
  refine gq_pure (enters kcall50 (.cons rfl .nil)) (rhint_spec d) rfl rfl rfl (fun _ _ => trivial) ?_
  refine gq_val (val_loadA kag30 rfl (sees_mem (by repeat (first | exact .head _ | refine .tail _ ?_ | refine List.mem_append_right _ ?_))) rfl rfl) rfl rfl rfl ?_
  refine gq_pure (enters kcall50 (.cons rfl .nil)) (rhint_spec o) rfl rfl rfl (fun _ _ => trivial) ?_
  refine gq_val (val_no (val_eqlDig kdig30 rfl rfl rfl rfl) he) rfl rfl rfl ?_
  refine gq_val (val_pick_f rfl rfl) rfl rfl rfl ?_
  refine gq_nil ?_
  refine gl_nil ?_
  refine gk_seq ?_
  refine gc_false rfl ?_
  refine gc_skip ?_
  refine gk_seq ?_
  refine gc_seq ?_
  refine gc_region ?_
  refine gl_cons (gs_val (val_loadA kag30 rfl (sees_mem (by repeat (first | exact .head _ | refine .tail _ ?_ | refine List.mem_append_right _ ?_))) rfl rfl) rfl rfl rfl ?_)
  refine gl_cons (gs_val (val_move rfl) rfl rfl rfl ?_)
  refine gl_cons (gs_val (val_move rfl) rfl rfl rfl ?_)
  refine gl_cons (gs_strBytesM kun9 kun54 kun5 rfl rfl rfl (fun sb sc sj hsc => ?_))
  refine gl_cons (gs_pure (enters kcall39 (.cons rfl (.cons rfl (.cons rfl .nil)))) (make_num d k (some ⟨sb, 0, none⟩) s.size sc hk) rfl rfl rfl (fun _ _ => trivial) ?_)
  refine gl_cons (gs_val (val_move rfl) rfl rfl rfl ?_)
  refine gl_cons (gs_val (val_extract rfl rfl) rfl rfl rfl ?_)
  refine gl_cons (gs_val (val_extract rfl rfl) rfl rfl rfl ?_)
  refine gl_cons (gs_alloc kze70 rfl rfl rfl (fun ab => ?_))
  refine gl_cons (gs_store ksz70 rfl rfl rfl rfl rfl rfl (by first | exact .head | exact .tail .head | exact .tail (.tail .head) | exact .tail (.tail (.tail .head)) | exact .tail (.tail (.tail (.tail .head))) | exact .tail (.tail (.tail (.tail (.tail .head))))) (by simp) (by first | ((with_reducible refine splice_all _ _ ?_); simp; done) | (simp only [splice, stL, digL, List.take_succ_cons, List.take_zero, List.drop_succ_cons, List.drop_zero, List.length_cons, List.length_nil, Nat.reduceAdd, Nat.reduceMul, Nat.zero_add, Nat.zero_mul, List.cons_append, List.nil_append]; exact rfl)) ?_)
  refine gl_cons (gs_val (val_assign rfl) rfl rfl rfl ?_)
  refine gl_nil ?_
  refine gk_seq ?_
  refine gc_seq ?_
  refine gc_region ?_
  refine gl_cons (gs_makes (enters kcall38 (.cons rfl .nil)) (newT_ok 1 (by omega) (by omega)) rfl rfl rfl (fun _ _ => trivial) (fun ⟨bt, Ls⟩ ht => ?_))
  have ht : TW 175 70 bt 1 [] Ls := ht
  obtain ⟨la, c, mb, clk, rows, NS, NB, htw, rfl⟩ := tw_zero ht
  refine gl_cons (gs_val (val_move rfl) rfl rfl rfl ?_)
  refine gl_cons (gs_val (val_extract rfl rfl) rfl rfl rfl ?_)
  refine gl_cons (gs_val (val_extract rfl rfl) rfl rfl rfl ?_)
  refine gl_cons (gs_val (val_assign rfl) rfl rfl rfl ?_)
  refine gl_cons (gs_val (val_assign rfl) rfl rfl rfl ?_)
  refine gl_nil ?_
  refine gk_seq ?_
  refine gc_seq ?_
  refine gc_seq ?_
  refine gc_region ?_
  refine gl_cons (gs_val (val_move rfl) rfl rfl rfl ?_)
  refine gl_cons (gs_val (val_eqlNil kun66 rfl rfl) rfl rfl rfl ?_)
  refine gl_cons (gs_val (val_move rfl) rfl rfl rfl ?_)
  refine gl_cons (gs_val (val_move rfl) rfl rfl rfl ?_)
  refine gl_cons (gs_val (val_neq rfl rfl) rfl rfl rfl ?_)
  refine gl_cons (gs_val (val_pick_f rfl rfl) rfl rfl rfl ?_)
  refine gl_nil ?_
  refine gk_seq ?_
  refine gc_false rfl ?_
  refine gc_skip ?_
  refine gk_seq ?_
  refine gc_seq ?_
  refine gc_seq ?_
  refine gc_region ?_
  refine gl_cons (gs_val (val_move rfl) rfl rfl rfl ?_)
  refine gl_cons (gs_val (val_neq rfl rfl) rfl rfl rfl ?_)
  refine gl_nil ?_
  refine gk_seq ?_
  refine gc_true rfl ?_
  refine gc_seq ?_
  refine gc_region ?_
  refine gl_cons (gs_val (val_move rfl) rfl rfl rfl ?_)
  refine gl_cons (gs_val (val_loadA kag70 rfl (sees_mem (by repeat (first | exact .head _ | refine .tail _ ?_ | refine List.mem_append_right _ ?_))) rfl rfl) rfl rfl rfl ?_)
  refine gl_cons (gs_pure (enters kcall41 (.cons rfl (.cons rfl .nil))) (take_short bt 0#64 0 none 0 0 (by decide) (by decide) (by decide)) rfl rfl rfl (fun _ _ => trivial) ?_)
  refine gl_cons (gs_val (val_eql rfl rfl) rfl rfl rfl ?_)
  refine gl_cons (gs_val (val_move rfl) rfl rfl rfl ?_)
  refine gl_cons (gs_pure (enters kcall47 .nil) (told51_spec) rfl rfl rfl (fun _ _ => trivial) ?_)
  refine gl_cons (gs_val (val_pick_t rfl rfl) rfl rfl rfl ?_)
  refine gl_cons (gs_val (val_assign rfl) rfl rfl rfl ?_)
  refine gl_nil ?_
  refine gk_seq ?_
  refine gc_ret ?_
  refine gk_seq_ret ?_
  refine gk_ret rfl (resv_tmp rfl .nil) (List.nil_sublist _) ?_
  exact ⟨rfl, rfl⟩

set_option maxRecDepth 8000 in
/-- baize/baizelaw51.TowerSees -/
theorem towerSees_see (d o : BitVec 64) (k g : Int) (s : ByteArray) (lg : Bool) (hs : s.size ≤ 300) (he : ¬ hintW d = hintW o) (hk : 0 ≤ k ∧ k ≤ 1099511627776) (hg : g < k) : Pure Try.prog 11 ([Dig d, Dig o, .agg ([I64 k, I64 g, .string s, .bool lg] : List Value).toArray]).toArray (fun _ => True) (.bool true) := by
  have hsl : (sealL (keyW d) s.data.toList).length = s.size + 8 := seal_len _ _ (by show s.size ≤ 65536; omega)
  have ho2 : ∀ b : List UInt8, ixA (hintW o) [(hintW d, k, b)] = none := fun b => ixA_not _ _ he
  refine spec_walk (n := 101) Try.func11 rfl rfl rfl (fun w0 hpre => ?_)
  refine gc_seq ?_
  refine gc_region ?_
  refine gl_cons (gs_box rfl rfl rfl rfl (fun b3 => ?_))
  refine gl_cons (gs_box rfl rfl rfl rfl (fun b4 => ?_))
  refine gl_cons (gs_box rfl rfl rfl rfl (fun b5 => ?_))
  refine gl_cons (gs_val (val_assign rfl) rfl rfl rfl ?_)
  refine gl_nil ?_
  refine gk_seq ?_
  refine gc_seq ?_
  refine gc_drawAll kmixed (by kernel_rfl) ?_
  refine gq_val (val_fieldAddr kfo83_0 rfl) rfl rfl rfl ?_
  refine gq_val (val_load1 kag3 rfl (sees_mem (by repeat (first | exact .head _ | refine .tail _ ?_ | refine List.mem_append_right _ ?_))) rfl) rfl rfl rfl ?_
  refine gq_val (val_fieldAddr kfo83_1 rfl) rfl rfl rfl ?_
  refine gq_val (val_load1 kag3 rfl (sees_mem (by repeat (first | exact .head _ | refine .tail _ ?_ | refine List.mem_append_right _ ?_))) rfl) rfl rfl rfl ?_
  refine gq_val (val_fieldAddr kfo83_2 rfl) rfl rfl rfl ?_
  refine gq_val (val_load1 kag9 rfl (sees_mem (by repeat (first | exact .head _ | refine .tail _ ?_ | refine List.mem_append_right _ ?_))) rfl) rfl rfl rfl ?_
  refine gq_val (val_assign rfl) rfl rfl rfl ?_
  refine gq_val (val_assign rfl) rfl rfl rfl ?_
  refine gq_val (val_assign rfl) rfl rfl rfl ?_
  refine gq_nil ?_
  refine gl_nil ?_
  refine gk_seq ?_
  refine gc_seq ?_
  refine gc_seq ?_
  refine gc_drawAll kmixed (by kernel_rfl) ?_
  refine gq_val (val_move rfl) rfl rfl rfl ?_
  refine gq_val (val_lenStr kun9 rfl) rfl rfl rfl ?_
  refine gq_val (val_no (val_gtr rfl rfl) (by omega)) rfl rfl rfl ?_
  refine gq_val (val_move rfl) rfl rfl rfl ?_
  refine gq_val (val_loadA kag30 rfl (sees_mem (by repeat (first | exact .head _ | refine .tail _ ?_ | refine List.mem_append_right _ ?_))) rfl rfl) rfl rfl rfl ?_
  refine gq_pure (enters kcall50 (.cons rfl .nil)) (rhint_spec d) rfl rfl rfl (fun _ _ => trivial) ?_
  refine gq_val (val_loadA kag30 rfl (sees_mem (by repeat (first | exact .head _ | refine .tail _ ?_ | refine List.mem_append_right _ ?_))) rfl rfl) rfl rfl rfl ?_
  refine gq_pure (enters kcall50 (.cons rfl .nil)) (rhint_spec o) rfl rfl rfl (fun _ _ => trivial) ?_
  refine gq_val (val_no (val_eqlDig kdig30 rfl rfl rfl rfl) he) rfl rfl rfl ?_
  refine gq_val (val_pick_f rfl rfl) rfl rfl rfl ?_
  refine gq_nil ?_
  refine gl_nil ?_
  refine gk_seq ?_
  refine gc_false rfl ?_
  refine gc_skip ?_
  refine gk_seq ?_
  refine gc_seq ?_
  refine gc_region ?_
  refine gl_cons (gs_val (val_loadA kag30 rfl (sees_mem (by repeat (first | exact .head _ | refine .tail _ ?_ | refine List.mem_append_right _ ?_))) rfl rfl) rfl rfl rfl ?_)
  refine gl_cons (gs_val (val_move rfl) rfl rfl rfl ?_)
  refine gl_cons (gs_val (val_move rfl) rfl rfl rfl ?_)
  refine gl_cons (gs_strBytesM kun9 kun54 kun5 rfl rfl rfl (fun sb sc sj hsc => ?_))
  refine gl_cons (gs_makes (enters kcall39 (.cons rfl (.cons rfl (.cons rfl .nil)))) (make_ok d k (some ⟨sb, 0, none⟩) s.size sc s.data.toList rfl hk (by omega) (by omega)) rfl rfl rfl (row_of_sees ((has_cells (b := sb) (cs := s.data.toList.map U8) (junk := sj) (e := 5)).sees (fun w hi => hi.sub (sub_one_head (by repeat (first | exact .head _ | refine .tail _ ?_ | refine List.mem_append_right _ ?_)))))) (fun ⟨xb, xc, xN, xe⟩ hx => ?_))
  have hx : Own xe 1 xb (sealL (keyW (d)) s.data.toList).length xc ((sealL (keyW (d)) s.data.toList).map U8) xN := hx
  refine gl_cons (gs_val (val_move rfl) rfl rfl rfl ?_)
  refine gl_cons (gs_val (val_extract rfl rfl) rfl rfl rfl ?_)
  refine gl_cons (gs_val (val_extract rfl rfl) rfl rfl rfl ?_)
  refine gl_cons (gs_alloc kze70 rfl rfl rfl (fun ab => ?_))
  refine gl_cons (gs_store ksz70 rfl rfl rfl rfl rfl rfl (by first | exact .head | exact .tail .head | exact .tail (.tail .head) | exact .tail (.tail (.tail .head)) | exact .tail (.tail (.tail (.tail .head))) | exact .tail (.tail (.tail (.tail (.tail .head))))) (by simp) (by first | ((with_reducible refine splice_all _ _ ?_); simp; done) | (simp only [splice, stL, digL, List.take_succ_cons, List.take_zero, List.drop_succ_cons, List.drop_zero, List.length_cons, List.length_nil, Nat.reduceAdd, Nat.reduceMul, Nat.zero_add, Nat.zero_mul, List.cons_append, List.nil_append]; exact rfl)) ?_)
  refine gl_cons (gs_val (val_assign rfl) rfl rfl rfl ?_)
  refine gl_nil ?_
  refine gk_seq ?_
  refine gc_seq ?_
  refine gc_region ?_
  refine gl_cons (gs_makes (enters kcall38 (.cons rfl .nil)) (newT_ok 1 (by omega) (by omega)) rfl rfl rfl (fun _ _ => trivial) (fun ⟨bt, Ls⟩ ht => ?_))
  have ht : TW 175 70 bt 1 [] Ls := ht
  obtain ⟨la, c, mb, clk, rows, NS, NB, htw, rfl⟩ := tw_zero ht
  refine gl_cons (gs_val (val_move rfl) rfl rfl rfl ?_)
  refine gl_cons (gs_val (val_extract rfl rfl) rfl rfl rfl ?_)
  refine gl_cons (gs_val (val_extract rfl rfl) rfl rfl rfl ?_)
  refine gl_cons (gs_val (val_assign rfl) rfl rfl rfl ?_)
  refine gl_cons (gs_val (val_assign rfl) rfl rfl rfl ?_)
  refine gl_nil ?_
  refine gk_seq ?_
  refine gc_seq ?_
  refine gc_seq ?_
  refine gc_region ?_
  refine gl_cons (gs_val (val_move rfl) rfl rfl rfl ?_)
  refine gl_cons (gs_val (val_eqlNil kun66 rfl rfl) rfl rfl rfl ?_)
  refine gl_cons (gs_val (val_move rfl) rfl rfl rfl ?_)
  refine gl_cons (gs_val (val_move rfl) rfl rfl rfl ?_)
  refine gl_cons (gs_val (val_neq rfl rfl) rfl rfl rfl ?_)
  refine gl_cons (gs_val (val_pick_f rfl rfl) rfl rfl rfl ?_)
  refine gl_nil ?_
  refine gk_seq ?_
  refine gc_false rfl ?_
  refine gc_skip ?_
  refine gk_seq ?_
  refine gc_seq ?_
  refine gc_seq ?_
  refine gc_region ?_
  refine gl_cons (gs_val (val_move rfl) rfl rfl rfl ?_)
  refine gl_cons (gs_val (val_neq rfl rfl) rfl rfl rfl ?_)
  refine gl_nil ?_
  refine gk_seq ?_
  refine gc_false rfl ?_
  refine gc_skip ?_
  refine gk_seq ?_
  refine gc_seq ?_
  refine gc_seq ?_
  refine gc_region ?_
  refine gl_cons (gs_val (val_move rfl) rfl rfl rfl ?_)
  refine gl_cons (gs_val (val_loadA kag70 rfl (sees_mem (by repeat (first | exact .head _ | refine .tail _ ?_ | refine List.mem_append_right _ ?_))) rfl rfl) rfl rfl rfl ?_)
  refine gl_cons (gs_turns (enters kcall41 (.cons rfl (.cons rfl .nil))) (take_new bt 1 [] la c mb clk rows NS NB htw (hintW d) k xb (sealL (keyW d) s.data.toList).length xc (sealL (keyW d) s.data.toList) rfl hk.1 hk.2 (by omega) (by omega) rfl (by decide) (by decide)) rfl rfl rfl .app (row_of_ownL hx .app (by first | exact .here | exact .app | exact .cons .head .here | exact .cons .head .app | exact .tail .here | exact .tail .app | exact .tail (.cons .head .here) | exact .tail (.cons .head .app) | exact .tail (.tail .here) | exact .tail (.tail .app) | exact .tail (.tail (.cons .head .here)) | exact .tail (.tail (.cons .head .app)) | exact .tail (.tail (.tail .here)) | exact .tail (.tail (.tail .app)) | exact .tail (.tail (.tail (.cons .head .here))) | exact .tail (.tail (.tail (.cons .head .app))) | exact .appr .here | exact .appr .app | exact .appr (.cons .head .here) | exact .appr (.cons .head .app) | exact .appr (.appr .here) | exact .appr (.appr .app) | exact .appr (.appr (.cons .head .here)) | exact .appr (.appr (.cons .head .app)) | exact .appr (.appr (.appr .here)) | exact .appr (.appr (.appr .app)) | exact .appr (.appr (.appr (.cons .head .here))) | exact .appr (.appr (.appr (.cons .head .app))) | exact .tail (.appr .here) | exact .tail (.appr .app) | exact .tail (.appr (.cons .head .here)) | exact .tail (.appr (.cons .head .app)) | exact .tail (.tail (.appr .here)) | exact .tail (.tail (.appr .app)) | exact .tail (.tail (.appr (.cons .head .here))) | exact .tail (.tail (.appr (.cons .head .app))) | exact .appr (.tail .here) | exact .appr (.tail .app) | exact .appr (.tail (.cons .head .here)) | exact .appr (.tail (.cons .head .app)) | exact .appr (.appr (.tail .here)) | exact .appr (.appr (.tail .app)) | exact .appr (.appr (.tail (.cons .head .here))) | exact .appr (.appr (.tail (.cons .head .app))) | exact .appr (.tail (.tail .here)) | exact .appr (.tail (.tail .app)) | exact .appr (.tail (.tail (.cons .head .here))) | exact .appr (.tail (.tail (.cons .head .app))))) (fun Lt htl => ?_))
  obtain ⟨ya, yc, lb, c, mb, clk, rows, NS, NB, htw, rfl⟩ := tw_one htl
  refine gl_cons (gs_val (val_neq rfl rfl) rfl rfl rfl ?_)
  refine gl_nil ?_
  refine gk_seq ?_
  refine gc_false rfl ?_
  refine gc_skip ?_
  refine gk_seq ?_
  refine gc_seq ?_
  refine gc_region ?_
  refine gl_cons (gs_val (val_move rfl) rfl rfl rfl ?_)
  refine gl_cons (gs_val (val_loadA kag30 rfl (sees_mem (by repeat (first | exact .head _ | refine .tail _ ?_ | refine List.mem_append_right _ ?_))) rfl rfl) rfl rfl rfl ?_)
  refine gl_cons (gs_val (val_move rfl) rfl rfl rfl ?_)
  refine gl_cons (gs_turns (enters kcall40 (.cons rfl (.cons rfl (.cons rfl .nil)))) (see_own bt 1 [⟨hintW d, k, (sealL (keyW d) s.data.toList), ya, yc⟩] lb c mb clk rows NS NB htw d g 0 Nat.zero_lt_one (ixA_one _ _ rfl) s.data.toList rfl (by show s.size ≤ 32768; omega) hg) rfl rfl rfl .app (fun _ _ => trivial) (fun ⟨ob, oc, oN⟩ ho => ?_))
  refine gx_perm perm_abr ?_
  refine gl_cons (gs_val (val_move rfl) rfl rfl rfl ?_)
  refine gl_cons (gs_val (val_extract rfl rfl) rfl rfl rfl ?_)
  refine gl_cons (gs_val (val_extract rfl rfl) rfl rfl rfl ?_)
  refine gl_cons (gs_val (val_assign rfl) rfl rfl rfl ?_)
  refine gl_cons (gs_val (val_assign rfl) rfl rfl rfl ?_)
  refine gl_nil ?_
  refine gk_seq ?_
  refine gc_seq ?_
  refine gc_region ?_
  refine gl_cons (gs_val (val_move rfl) rfl rfl rfl ?_)
  refine gl_cons (gs_val (val_loadA kag30 rfl (sees_mem (by repeat (first | exact .head _ | refine .tail _ ?_ | refine List.mem_append_right _ ?_))) rfl rfl) rfl rfl rfl ?_)
  refine gl_cons (gs_turns (enters kcall40 (.cons rfl (.cons rfl (.cons rfl .nil)))) (see_none bt 1 [⟨hintW d, k, (sealL (keyW d) s.data.toList), ya, yc⟩] (some ⟨lb, 0, none⟩) c mb clk rows NS NB htw o (-1) (ho2 _)) rfl rfl rfl .app (fun _ _ => trivial) (fun _ _ => ?_))
  refine gl_cons (gs_val (val_move rfl) rfl rfl rfl ?_)
  refine gl_cons (gs_val (val_extract rfl rfl) rfl rfl rfl ?_)
  refine gl_cons (gs_val (val_extract rfl rfl) rfl rfl rfl ?_)
  refine gl_cons (gs_val (val_assign rfl) rfl rfl rfl ?_)
  refine gl_cons (gs_val (val_assign rfl) rfl rfl rfl ?_)
  refine gl_nil ?_
  refine gk_seq ?_
  refine gc_seq ?_
  refine gc_region ?_
  refine gl_cons (gs_val (val_move rfl) rfl rfl rfl ?_)
  refine gl_cons (gs_val (val_move rfl) rfl rfl rfl ?_)
  refine gl_cons (gs_val (val_move rfl) rfl rfl rfl ?_)
  refine gl_cons (gs_val (val_yes (val_gtr rfl rfl) (by omega)) rfl rfl rfl ?_)
  refine gl_cons (gs_val (val_eqlB kun4 rfl rfl) rfl rfl rfl ?_)
  refine gl_cons (gs_val (val_move rfl) rfl rfl rfl ?_)
  refine gl_cons (gs_val (val_move rfl) rfl rfl rfl ?_)
  refine gl_cons (gs_val (val_not rfl) rfl rfl rfl ?_)
  refine gl_cons (gs_val (val_move rfl) rfl rfl rfl ?_)
  refine gl_cons (gs_val (val_move rfl) rfl rfl rfl ?_)
  refine gl_cons (gs_val (val_bytesStr kun54 kun5 kun9 rfl (by first | rfl | assumption | simp | omega) (ho.look (by repeat (first | exact .here | exact .headR | exact .app | refine .tail ?_ | refine .appr ?_)))) rfl rfl rfl ?_)
  refine gl_cons (gs_val (val_move rfl) rfl rfl rfl ?_)
  refine gl_cons (gs_val (val_yes (val_eqlS rfl rfl) rfl) rfl rfl rfl ?_)
  refine gl_cons (gs_val (val_pick_f rfl rfl) rfl rfl rfl ?_)
  refine gl_cons (gs_val (val_pick_t rfl rfl) rfl rfl rfl ?_)
  refine gl_cons (gs_val (val_move rfl) rfl rfl rfl ?_)
  refine gl_cons (gs_val (val_move rfl) rfl rfl rfl ?_)
  refine gl_cons (gs_val (val_not rfl) rfl rfl rfl ?_)
  refine gl_cons (gs_val (val_pick_t rfl rfl) rfl rfl rfl ?_)
  refine gl_cons (gs_val (val_move rfl) rfl rfl rfl ?_)
  refine gl_cons (gs_pure (enters kcall47 .nil) (told51_spec) rfl rfl rfl (fun _ _ => trivial) ?_)
  refine gl_cons (gs_val (val_pick_t rfl rfl) rfl rfl rfl ?_)
  refine gl_cons (gs_val (val_assign rfl) rfl rfl rfl ?_)
  refine gl_nil ?_
  refine gk_seq ?_
  refine gc_ret ?_
  refine gk_ret rfl (resv_tmp rfl .nil) (List.nil_sublist _) ?_
  exact ⟨rfl, rfl⟩

set_option maxRecDepth 8000 in
/-- baize/baizelaw51.TowerSees -/
theorem towerSees_low (d o : BitVec 64) (k g : Int) (s : ByteArray) (lg : Bool) (hs : s.size ≤ 300) (he : ¬ hintW d = hintW o) (hk : 0 ≤ k ∧ k ≤ 1099511627776) (hg : k ≤ g) : Pure Try.prog 11 ([Dig d, Dig o, .agg ([I64 k, I64 g, .string s, .bool lg] : List Value).toArray]).toArray (fun _ => True) (.bool true) := by
  have hsl : (sealL (keyW d) s.data.toList).length = s.size + 8 := seal_len _ _ (by show s.size ≤ 65536; omega)
  have ho2 : ∀ b : List UInt8, ixA (hintW o) [(hintW d, k, b)] = none := fun b => ixA_not _ _ he
  refine spec_walk (n := 101) Try.func11 rfl rfl rfl (fun w0 hpre => ?_)
  refine gc_seq ?_
  refine gc_region ?_
  refine gl_cons (gs_box rfl rfl rfl rfl (fun b3 => ?_))
  refine gl_cons (gs_box rfl rfl rfl rfl (fun b4 => ?_))
  refine gl_cons (gs_box rfl rfl rfl rfl (fun b5 => ?_))
  refine gl_cons (gs_val (val_assign rfl) rfl rfl rfl ?_)
  refine gl_nil ?_
  refine gk_seq ?_
  refine gc_seq ?_
  refine gc_drawAll kmixed (by kernel_rfl) ?_
  refine gq_val (val_fieldAddr kfo83_0 rfl) rfl rfl rfl ?_
  refine gq_val (val_load1 kag3 rfl (sees_mem (by repeat (first | exact .head _ | refine .tail _ ?_ | refine List.mem_append_right _ ?_))) rfl) rfl rfl rfl ?_
  refine gq_val (val_fieldAddr kfo83_1 rfl) rfl rfl rfl ?_
  refine gq_val (val_load1 kag3 rfl (sees_mem (by repeat (first | exact .head _ | refine .tail _ ?_ | refine List.mem_append_right _ ?_))) rfl) rfl rfl rfl ?_
  refine gq_val (val_fieldAddr kfo83_2 rfl) rfl rfl rfl ?_
  refine gq_val (val_load1 kag9 rfl (sees_mem (by repeat (first | exact .head _ | refine .tail _ ?_ | refine List.mem_append_right _ ?_))) rfl) rfl rfl rfl ?_
  refine gq_val (val_assign rfl) rfl rfl rfl ?_
  refine gq_val (val_assign rfl) rfl rfl rfl ?_
  refine gq_val (val_assign rfl) rfl rfl rfl ?_
  refine gq_nil ?_
  refine gl_nil ?_
  refine gk_seq ?_
  refine gc_seq ?_
  refine gc_seq ?_
  refine gc_drawAll kmixed (by kernel_rfl) ?_
  refine gq_val (val_move rfl) rfl rfl rfl ?_
  refine gq_val (val_lenStr kun9 rfl) rfl rfl rfl ?_
  refine gq_val (val_no (val_gtr rfl rfl) (by omega)) rfl rfl rfl ?_
  refine gq_val (val_move rfl) rfl rfl rfl ?_
  refine gq_val (val_loadA kag30 rfl (sees_mem (by repeat (first | exact .head _ | refine .tail _ ?_ | refine List.mem_append_right _ ?_))) rfl rfl) rfl rfl rfl ?_
  refine gq_pure (enters kcall50 (.cons rfl .nil)) (rhint_spec d) rfl rfl rfl (fun _ _ => trivial) ?_
  refine gq_val (val_loadA kag30 rfl (sees_mem (by repeat (first | exact .head _ | refine .tail _ ?_ | refine List.mem_append_right _ ?_))) rfl rfl) rfl rfl rfl ?_
  refine gq_pure (enters kcall50 (.cons rfl .nil)) (rhint_spec o) rfl rfl rfl (fun _ _ => trivial) ?_
  refine gq_val (val_no (val_eqlDig kdig30 rfl rfl rfl rfl) he) rfl rfl rfl ?_
  refine gq_val (val_pick_f rfl rfl) rfl rfl rfl ?_
  refine gq_nil ?_
  refine gl_nil ?_
  refine gk_seq ?_
  refine gc_false rfl ?_
  refine gc_skip ?_
  refine gk_seq ?_
  refine gc_seq ?_
  refine gc_region ?_
  refine gl_cons (gs_val (val_loadA kag30 rfl (sees_mem (by repeat (first | exact .head _ | refine .tail _ ?_ | refine List.mem_append_right _ ?_))) rfl rfl) rfl rfl rfl ?_)
  refine gl_cons (gs_val (val_move rfl) rfl rfl rfl ?_)
  refine gl_cons (gs_val (val_move rfl) rfl rfl rfl ?_)
  refine gl_cons (gs_strBytesM kun9 kun54 kun5 rfl rfl rfl (fun sb sc sj hsc => ?_))
  refine gl_cons (gs_makes (enters kcall39 (.cons rfl (.cons rfl (.cons rfl .nil)))) (make_ok d k (some ⟨sb, 0, none⟩) s.size sc s.data.toList rfl hk (by omega) (by omega)) rfl rfl rfl (row_of_sees ((has_cells (b := sb) (cs := s.data.toList.map U8) (junk := sj) (e := 5)).sees (fun w hi => hi.sub (sub_one_head (by repeat (first | exact .head _ | refine .tail _ ?_ | refine List.mem_append_right _ ?_)))))) (fun ⟨xb, xc, xN, xe⟩ hx => ?_))
  have hx : Own xe 1 xb (sealL (keyW (d)) s.data.toList).length xc ((sealL (keyW (d)) s.data.toList).map U8) xN := hx
  refine gl_cons (gs_val (val_move rfl) rfl rfl rfl ?_)
  refine gl_cons (gs_val (val_extract rfl rfl) rfl rfl rfl ?_)
  refine gl_cons (gs_val (val_extract rfl rfl) rfl rfl rfl ?_)
  refine gl_cons (gs_alloc kze70 rfl rfl rfl (fun ab => ?_))
  refine gl_cons (gs_store ksz70 rfl rfl rfl rfl rfl rfl (by first | exact .head | exact .tail .head | exact .tail (.tail .head) | exact .tail (.tail (.tail .head)) | exact .tail (.tail (.tail (.tail .head))) | exact .tail (.tail (.tail (.tail (.tail .head))))) (by simp) (by first | ((with_reducible refine splice_all _ _ ?_); simp; done) | (simp only [splice, stL, digL, List.take_succ_cons, List.take_zero, List.drop_succ_cons, List.drop_zero, List.length_cons, List.length_nil, Nat.reduceAdd, Nat.reduceMul, Nat.zero_add, Nat.zero_mul, List.cons_append, List.nil_append]; exact rfl)) ?_)
  refine gl_cons (gs_val (val_assign rfl) rfl rfl rfl ?_)
  refine gl_nil ?_
  refine gk_seq ?_
  refine gc_seq ?_
  refine gc_region ?_
  refine gl_cons (gs_makes (enters kcall38 (.cons rfl .nil)) (newT_ok 1 (by omega) (by omega)) rfl rfl rfl (fun _ _ => trivial) (fun ⟨bt, Ls⟩ ht => ?_))
  have ht : TW 175 70 bt 1 [] Ls := ht
  obtain ⟨la, c, mb, clk, rows, NS, NB, htw, rfl⟩ := tw_zero ht
  refine gl_cons (gs_val (val_move rfl) rfl rfl rfl ?_)
  refine gl_cons (gs_val (val_extract rfl rfl) rfl rfl rfl ?_)
  refine gl_cons (gs_val (val_extract rfl rfl) rfl rfl rfl ?_)
  refine gl_cons (gs_val (val_assign rfl) rfl rfl rfl ?_)
  refine gl_cons (gs_val (val_assign rfl) rfl rfl rfl ?_)
  refine gl_nil ?_
  refine gk_seq ?_
  refine gc_seq ?_
  refine gc_seq ?_
  refine gc_region ?_
  refine gl_cons (gs_val (val_move rfl) rfl rfl rfl ?_)
  refine gl_cons (gs_val (val_eqlNil kun66 rfl rfl) rfl rfl rfl ?_)
  refine gl_cons (gs_val (val_move rfl) rfl rfl rfl ?_)
  refine gl_cons (gs_val (val_move rfl) rfl rfl rfl ?_)
  refine gl_cons (gs_val (val_neq rfl rfl) rfl rfl rfl ?_)
  refine gl_cons (gs_val (val_pick_f rfl rfl) rfl rfl rfl ?_)
  refine gl_nil ?_
  refine gk_seq ?_
  refine gc_false rfl ?_
  refine gc_skip ?_
  refine gk_seq ?_
  refine gc_seq ?_
  refine gc_seq ?_
  refine gc_region ?_
  refine gl_cons (gs_val (val_move rfl) rfl rfl rfl ?_)
  refine gl_cons (gs_val (val_neq rfl rfl) rfl rfl rfl ?_)
  refine gl_nil ?_
  refine gk_seq ?_
  refine gc_false rfl ?_
  refine gc_skip ?_
  refine gk_seq ?_
  refine gc_seq ?_
  refine gc_seq ?_
  refine gc_region ?_
  refine gl_cons (gs_val (val_move rfl) rfl rfl rfl ?_)
  refine gl_cons (gs_val (val_loadA kag70 rfl (sees_mem (by repeat (first | exact .head _ | refine .tail _ ?_ | refine List.mem_append_right _ ?_))) rfl rfl) rfl rfl rfl ?_)
  refine gl_cons (gs_turns (enters kcall41 (.cons rfl (.cons rfl .nil))) (take_new bt 1 [] la c mb clk rows NS NB htw (hintW d) k xb (sealL (keyW d) s.data.toList).length xc (sealL (keyW d) s.data.toList) rfl hk.1 hk.2 (by omega) (by omega) rfl (by decide) (by decide)) rfl rfl rfl .app (row_of_ownL hx .app (by first | exact .here | exact .app | exact .cons .head .here | exact .cons .head .app | exact .tail .here | exact .tail .app | exact .tail (.cons .head .here) | exact .tail (.cons .head .app) | exact .tail (.tail .here) | exact .tail (.tail .app) | exact .tail (.tail (.cons .head .here)) | exact .tail (.tail (.cons .head .app)) | exact .tail (.tail (.tail .here)) | exact .tail (.tail (.tail .app)) | exact .tail (.tail (.tail (.cons .head .here))) | exact .tail (.tail (.tail (.cons .head .app))) | exact .appr .here | exact .appr .app | exact .appr (.cons .head .here) | exact .appr (.cons .head .app) | exact .appr (.appr .here) | exact .appr (.appr .app) | exact .appr (.appr (.cons .head .here)) | exact .appr (.appr (.cons .head .app)) | exact .appr (.appr (.appr .here)) | exact .appr (.appr (.appr .app)) | exact .appr (.appr (.appr (.cons .head .here))) | exact .appr (.appr (.appr (.cons .head .app))) | exact .tail (.appr .here) | exact .tail (.appr .app) | exact .tail (.appr (.cons .head .here)) | exact .tail (.appr (.cons .head .app)) | exact .tail (.tail (.appr .here)) | exact .tail (.tail (.appr .app)) | exact .tail (.tail (.appr (.cons .head .here))) | exact .tail (.tail (.appr (.cons .head .app))) | exact .appr (.tail .here) | exact .appr (.tail .app) | exact .appr (.tail (.cons .head .here)) | exact .appr (.tail (.cons .head .app)) | exact .appr (.appr (.tail .here)) | exact .appr (.appr (.tail .app)) | exact .appr (.appr (.tail (.cons .head .here))) | exact .appr (.appr (.tail (.cons .head .app))) | exact .appr (.tail (.tail .here)) | exact .appr (.tail (.tail .app)) | exact .appr (.tail (.tail (.cons .head .here))) | exact .appr (.tail (.tail (.cons .head .app))))) (fun Lt htl => ?_))
  obtain ⟨ya, yc, lb, c, mb, clk, rows, NS, NB, htw, rfl⟩ := tw_one htl
  refine gl_cons (gs_val (val_neq rfl rfl) rfl rfl rfl ?_)
  refine gl_nil ?_
  refine gk_seq ?_
  refine gc_false rfl ?_
  refine gc_skip ?_
  refine gk_seq ?_
  refine gc_seq ?_
  refine gc_region ?_
  refine gl_cons (gs_val (val_move rfl) rfl rfl rfl ?_)
  refine gl_cons (gs_val (val_loadA kag30 rfl (sees_mem (by repeat (first | exact .head _ | refine .tail _ ?_ | refine List.mem_append_right _ ?_))) rfl rfl) rfl rfl rfl ?_)
  refine gl_cons (gs_val (val_move rfl) rfl rfl rfl ?_)
  refine gl_cons (gs_turns (enters kcall40 (.cons rfl (.cons rfl (.cons rfl .nil)))) (see_low bt 1 [⟨hintW d, k, (sealL (keyW d) s.data.toList), ya, yc⟩] lb c mb clk rows NS NB htw d g 0 Nat.zero_lt_one (ixA_one _ _ rfl) hg) rfl rfl rfl .app (fun _ _ => trivial) (fun _ _ => ?_))
  refine gl_cons (gs_val (val_move rfl) rfl rfl rfl ?_)
  refine gl_cons (gs_val (val_extract rfl rfl) rfl rfl rfl ?_)
  refine gl_cons (gs_val (val_extract rfl rfl) rfl rfl rfl ?_)
  refine gl_cons (gs_val (val_assign rfl) rfl rfl rfl ?_)
  refine gl_cons (gs_val (val_assign rfl) rfl rfl rfl ?_)
  refine gl_nil ?_
  refine gk_seq ?_
  refine gc_seq ?_
  refine gc_region ?_
  refine gl_cons (gs_val (val_move rfl) rfl rfl rfl ?_)
  refine gl_cons (gs_val (val_loadA kag30 rfl (sees_mem (by repeat (first | exact .head _ | refine .tail _ ?_ | refine List.mem_append_right _ ?_))) rfl rfl) rfl rfl rfl ?_)
  refine gl_cons (gs_turns (enters kcall40 (.cons rfl (.cons rfl (.cons rfl .nil)))) (see_none bt 1 [⟨hintW d, k, (sealL (keyW d) s.data.toList), ya, yc⟩] (some ⟨lb, 0, none⟩) c mb clk rows NS NB htw o (-1) (ho2 _)) rfl rfl rfl .app (fun _ _ => trivial) (fun _ _ => ?_))
  refine gl_cons (gs_val (val_move rfl) rfl rfl rfl ?_)
  refine gl_cons (gs_val (val_extract rfl rfl) rfl rfl rfl ?_)
  refine gl_cons (gs_val (val_extract rfl rfl) rfl rfl rfl ?_)
  refine gl_cons (gs_val (val_assign rfl) rfl rfl rfl ?_)
  refine gl_cons (gs_val (val_assign rfl) rfl rfl rfl ?_)
  refine gl_nil ?_
  refine gk_seq ?_
  refine gc_seq ?_
  refine gc_region ?_
  refine gl_cons (gs_val (val_move rfl) rfl rfl rfl ?_)
  refine gl_cons (gs_val (val_move rfl) rfl rfl rfl ?_)
  refine gl_cons (gs_val (val_move rfl) rfl rfl rfl ?_)
  refine gl_cons (gs_val (val_no (val_gtr rfl rfl) (by omega)) rfl rfl rfl ?_)
  refine gl_cons (gs_val (val_eqlB kun4 rfl rfl) rfl rfl rfl ?_)
  refine gl_cons (gs_val (val_move rfl) rfl rfl rfl ?_)
  refine gl_cons (gs_val (val_move rfl) rfl rfl rfl ?_)
  refine gl_cons (gs_val (val_not rfl) rfl rfl rfl ?_)
  refine gl_cons (gs_val (val_move rfl) rfl rfl rfl ?_)
  refine gl_cons (gs_skip rfl rfl rfl ?_)
  refine gl_cons (gs_skip rfl rfl rfl ?_)
  refine gl_cons (gs_skip rfl rfl rfl ?_)
  refine gl_cons (gs_skip rfl rfl rfl ?_)
  refine gl_cons (gs_val (val_pick_t rfl rfl) rfl rfl rfl ?_)
  refine gl_cons (gs_val (val_pick_t rfl rfl) rfl rfl rfl ?_)
  refine gl_cons (gs_val (val_move rfl) rfl rfl rfl ?_)
  refine gl_cons (gs_val (val_move rfl) rfl rfl rfl ?_)
  refine gl_cons (gs_val (val_not rfl) rfl rfl rfl ?_)
  refine gl_cons (gs_val (val_pick_t rfl rfl) rfl rfl rfl ?_)
  refine gl_cons (gs_val (val_move rfl) rfl rfl rfl ?_)
  refine gl_cons (gs_pure (enters kcall47 .nil) (told51_spec) rfl rfl rfl (fun _ _ => trivial) ?_)
  refine gl_cons (gs_val (val_pick_t rfl rfl) rfl rfl rfl ?_)
  refine gl_cons (gs_val (val_assign rfl) rfl rfl rfl ?_)
  refine gl_nil ?_
  refine gk_seq ?_
  refine gc_ret ?_
  refine gk_ret rfl (resv_tmp rfl .nil) (List.nil_sublist _) ?_
  exact ⟨rfl, rfl⟩

theorem towerSees_walk (d o : BitVec 64) (k g : Int) (s : ByteArray) (lg : Bool) : Pure Try.prog 11 ([Dig d, Dig o, .agg ([I64 k, I64 g, .string s, .bool lg] : List Value).toArray]).toArray (fun _ => True) (.bool true) := by
  by_cases hs : s.size ≤ 300
  · by_cases he : hintW d = hintW o
    · exact towerSees_same d o k g s lg hs he
    · by_cases hk : 0 ≤ k ∧ k ≤ 1099511627776
      · by_cases hg : g < k
        · exact towerSees_see d o k g s lg hs he hk hg
        · exact towerSees_low d o k g s lg hs he hk (by omega)
      · exact towerSees_no d o k g s lg hs he hk
  · exact towerSees_big d o k g s lg (by omega)

end Go.Proofs.Ytddckbhlfeegoaa
