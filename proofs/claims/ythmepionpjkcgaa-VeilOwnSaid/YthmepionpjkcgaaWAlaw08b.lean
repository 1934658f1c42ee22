/- The walk of functions of the program: what each computes, for every input. -/
import Derived.Test.YthmepionpjkcgaaWAFacts
import Derived.Test.YthmepionpjkcgaaWAlaw08
namespace Go.Proofs.Ythmepionpjkcgaa
open Go Go.Eng
set_option linter.unusedVariables false
set_option linter.unusedSimpArgs false

set_option maxRecDepth 8000 in
/-- baize/baizelaw08.VeilLong -/
theorem long_fit (k : BitVec 64) (m : Int) (q' q r : Nat) (hq' : (BitVec.ofInt 64 m % 12#64).toNat = q') (hql' : q' < 12) (hq : q = 65530 + q') (hr : Op.intBits .and .i64 m 7 = pure (I64 (r : Int))) (hr7 : r ≤ 7) (h : q ≤ 65536) : Pure Try.prog 25 ([Dig k, I64 m]).toArray (fun _ => True) (.bool true) := by
  have hz : ∀ i : Nat, (List.replicate i (.int .u8 0) : List Value) = (List.replicate i (0 : UInt8)).map U8 := fun i => by rw [List.map_replicate]; rfl
  have hzl : (List.replicate q (0 : UInt8)).length = q := List.length_replicate
  have hz8 : (List.replicate (q + 8) (0 : UInt8)).length = q + 8 := List.length_replicate
  have hzr : (List.replicate r (0 : UInt8)).length = r := List.length_replicate
  have hor := openE_short k (List.replicate r (0 : UInt8)) (by omega)
  have hsz : (sealL k (List.replicate q (0 : UInt8))).length = q + 8 := by rw [seal_len _ _ (by omega), hzl]
  refine spec_walk (n := 92) Try.func25 rfl rfl rfl (fun w0 hpre => ?_)
  refine gc_seq ?_
  refine gc_region ?_
  refine gl_cons (gs_box rfl rfl rfl rfl (fun b2 => ?_))
  refine gl_cons (gs_val (val_assign rfl) rfl rfl rfl ?_)
  refine gl_nil ?_
  refine gk_seq ?_
  refine gc_seq ?_
  refine gc_region ?_
  refine gl_cons (gs_val (val_move rfl) rfl rfl rfl ?_)
  refine gl_cons (gs_val (val_conv64 rfl kis3 kun23) rfl rfl rfl ?_)
  refine gl_cons (gs_val (val_rem64 (j := 12#64) rfl rfl rfl rfl (by decide)) rfl rfl rfl ?_)
  refine gl_cons (gs_val (val_cast (v := I64 (q' : Int)) (val_convI rfl kis23 kun3 (by rw [hq']; omega)) (congrArg (fun z : Nat => I64 (z : Int)) hq')) rfl rfl rfl ?_)
  refine gl_cons (gs_val (val_cast (v := I64 (q : Int)) (val_addI rfl rfl (by omega)) (congrArg I64 (by omega))) rfl rfl rfl ?_)
  refine gl_cons (gs_val (val_assign rfl) rfl rfl rfl ?_)
  refine gl_nil ?_
  refine gk_seq ?_
  refine gc_seq ?_
  refine gc_region ?_
  refine gl_cons (gs_val (val_move rfl) rfl rfl rfl ?_)
  refine gl_cons (gs_make1 (ln := q) (cp := q) ksl37 kze5 rfl rfl rfl rfl rfl (by omega) rfl (by omega) rfl rfl (fun b19 => ?_))
  refine gl_cons (gs_val (val_assign rfl) rfl rfl rfl ?_)
  refine gl_nil ?_
  refine gk_seq ?_
  refine gc_seq ?_
  refine gc_region ?_
  refine gl_cons (gs_val (val_loadA kag24 rfl (sees_mem (by repeat (first | exact .head _ | refine .tail _ ?_ | refine List.mem_append_right _ ?_))) rfl rfl) rfl rfl rfl ?_)
  refine gl_cons (gs_val (val_move rfl) rfl rfl rfl ?_)
  refine gl_cons (gs_makes (enters kcall81 (.cons rfl (.cons rfl .nil))) (seal_ok k (some ⟨b19, 0, none⟩) q q (List.replicate q (0 : UInt8)) hzl (by omega) (Nat.le_refl _)) rfl rfl rfl (row_of_sees ((sees_all (by repeat (first | exact .head _ | refine .tail _ ?_ | refine List.mem_append_right _ ?_))).cast (hz _))) (fun ⟨ba22, c22, N22, e22⟩ h22 => ?_))
  have o22 : Own e22 1 ba22 (sealL k (List.replicate q (0 : UInt8))).length c22 ((sealL k (List.replicate q (0 : UInt8))).map U8) N22 := h22
  refine gl_cons (gs_val (val_assign rfl) rfl rfl rfl ?_)
  refine gl_nil ?_
  refine gk_seq ?_
  refine gc_seq ?_
  refine gc_region ?_
  refine gl_cons (gs_val (val_loadA kag24 rfl (sees_mem (by repeat (first | exact .head _ | refine .tail _ ?_ | refine List.mem_append_right _ ?_))) rfl rfl) rfl rfl rfl ?_)
  refine gl_cons (gs_val (val_move rfl) rfl rfl rfl ?_)
  refine gl_cons (gs_pure (enters kcall79 (.cons rfl (.cons rfl .nil))) (commit_spec k (some ⟨b19, 0, none⟩) q q (List.replicate q (0 : UInt8)) hzl (by omega) (Nat.le_refl _)) rfl rfl rfl (row_of_sees ((sees_all (by repeat (first | exact .head _ | refine .tail _ ?_ | refine List.mem_append_right _ ?_))).cast (hz _))) ?_)
  refine gl_cons (gs_alloc kze24 rfl rfl rfl (fun b8 => ?_))
  refine gl_cons (gs_store ksz24 rfl rfl rfl rfl rfl rfl (by first | exact .head | exact .tail .head | exact .tail (.tail .head) | exact .tail (.tail (.tail .head)) | exact .tail (.tail (.tail (.tail .head))) | exact .tail (.tail (.tail (.tail (.tail .head))))) (by simp) (by first | ((with_reducible refine splice_all _ _ ?_); simp; done) | (simp only [splice, stL, digL, List.take_succ_cons, List.take_zero, List.drop_succ_cons, List.drop_zero, List.length_cons, List.length_nil, Nat.reduceAdd, Nat.reduceMul, Nat.zero_add, Nat.zero_mul, List.cons_append, List.nil_append]; exact rfl)) ?_)
  refine gl_nil ?_
  refine gk_seq ?_
  refine gc_seq ?_
  refine ga_start (m := 10) (ls := [false, false, false, false, false, false, false, false, false, false]) kmixed rfl rfl ?_
  apply share1 (α := Nat) (m' := 6) (ls' := [true, true, true, true, false, false, false, false, false, false])
  · intro hD0
    refine ga_take (i := 1) (ls' := [false, true, false, false, false, false, false, false, false, false]) rfl (by kernel_rfl) rfl (fun _ _ _ => val_move rfl) rfl rfl rfl ?_
    refine ga_take (i := 2) (ls' := [false, true, true, false, false, false, false, false, false, false]) rfl (by kernel_rfl) rfl (fun _ _ _ => val_cast (v := I64 ((q + 8 : Nat) : Int)) (val_addI rfl rfl (by omega)) rfl) rfl rfl rfl ?_
    refine ga_branch (rs := [0, 3]) (by kernel_rfl) rfl (.cons (ls' := [true, true, true, false, false, false, false, false, false, false]) rfl rfl ?_ (.cons (ls' := [false, true, true, true, false, false, false, false, false, false]) rfl rfl ?_ .nil))
    · skip
      refine gs_val (val_loadA kag24 rfl (sees_mem (by repeat (first | exact .head _ | refine .tail _ ?_ | refine List.mem_append_right _ ?_))) rfl rfl) rfl rfl rfl ?_
      refine ga_branch (rs := [3]) (by kernel_rfl) rfl (.cons (ls' := [true, true, true, true, false, false, false, false, false, false]) rfl rfl ?_ .nil)
      refine gs_make1 (ln := q + 8) (cp := q + 8) ksl37 kze5 rfl rfl rfl rfl rfl (by omega) rfl (by omega) rfl rfl (fun b30 => ?_)
      refine gx_env (F := [(0, _), (1, _), (2, _), (4, _), (5, _), (6, _), (7, _), (8, _), (13, _), (14, _), (15, _), (16, _), (17, _), (18, _), (19, _), (20, _), (21, _), (22, _), (23, _), (24, _), (25, _), (27, _), (28, _), (29, _), (30, _)]) (.cons rfl (.cons rfl (.cons rfl (.cons rfl (.cons rfl (.cons rfl (.cons rfl (.cons rfl (.cons rfl (.cons rfl (.cons rfl (.cons rfl (.cons rfl (.cons rfl (.cons rfl (.cons rfl (.cons rfl (.cons rfl (.cons rfl (.cons rfl (.cons rfl (.cons rfl (.cons rfl (.cons rfl (.cons rfl .nil))))))))))))))))))))))))) (gx_perm (by first | exact .refl _ | (repeat (first | exact .refl _ | refine perm_take (by first | exact .head | exact .tail .head | exact .tail (.tail .head) | exact .tail (.tail (.tail .head)) | exact .tail (.tail (.tail (.tail .head))) | exact .tail (.tail (.tail (.tail (.tail .head))))) ?_))) (hD0 b30 True.intro))
    · skip
      refine gs_make1 (ln := q + 8) (cp := q + 8) ksl37 kze5 rfl rfl rfl rfl rfl (by omega) rfl (by omega) rfl rfl (fun b30 => ?_)
      refine ga_branch (rs := [0]) (by kernel_rfl) rfl (.cons (ls' := [true, true, true, true, false, false, false, false, false, false]) rfl rfl ?_ .nil)
      refine gs_val (val_loadA kag24 rfl (sees_mem (by repeat (first | exact .head _ | refine .tail _ ?_ | refine List.mem_append_right _ ?_))) rfl rfl) rfl rfl rfl ?_
      refine gx_env (F := [(0, _), (1, _), (2, _), (4, _), (5, _), (6, _), (7, _), (8, _), (13, _), (14, _), (15, _), (16, _), (17, _), (18, _), (19, _), (20, _), (21, _), (22, _), (23, _), (24, _), (25, _), (27, _), (28, _), (29, _), (30, _)]) (.cons rfl (.cons rfl (.cons rfl (.cons rfl (.cons rfl (.cons rfl (.cons rfl (.cons rfl (.cons rfl (.cons rfl (.cons rfl (.cons rfl (.cons rfl (.cons rfl (.cons rfl (.cons rfl (.cons rfl (.cons rfl (.cons rfl (.cons rfl (.cons rfl (.cons rfl (.cons rfl (.cons rfl (.cons rfl .nil))))))))))))))))))))))))) (gx_perm (by first | exact .refl _ | (repeat (first | exact .refl _ | refine perm_take (by first | exact .head | exact .tail .head | exact .tail (.tail .head) | exact .tail (.tail (.tail .head)) | exact .tail (.tail (.tail (.tail .head))) | exact .tail (.tail (.tail (.tail (.tail .head))))) ?_))) (hD0 b30 True.intro))
  · rintro b30 _
    refine ga_branch (rs := [4]) (by kernel_rfl) rfl (.cons (ls' := [true, true, true, true, true, false, false, false, false, false]) rfl rfl ?_ .nil)
    refine gs_makes (enters kcall82 (.cons rfl (.cons rfl .nil))) (open_spec k (some ⟨b30, 0, none⟩) (q + 8) (q + 8) (List.replicate (q + 8) (0 : UInt8)) hz8 (by omega) (Nat.le_refl _)) rfl rfl rfl (row_of_sees ((sees_all (by repeat (first | exact .head _ | refine .tail _ ?_ | refine List.mem_append_right _ ?_))).cast (hz _))) (fun ⟨ba31, c31, N31⟩ h31 => ?_)
    have o31 : Own 5 1 ba31 (openL k (List.replicate (q + 8) (0 : UInt8))).length c31 ((openL k (List.replicate (q + 8) (0 : UInt8))).map U8) N31 := h31
    refine ga_take (i := 5) (ls' := [true, true, true, true, true, true, false, false, false, false]) rfl (by kernel_rfl) rfl (fun _ _ _ => val_move rfl) rfl rfl rfl ?_
    refine ga_take (i := 6) (ls' := [true, true, true, true, true, true, true, false, false, false]) rfl (by kernel_rfl) rfl (fun _ _ _ => val_extract rfl rfl) rfl rfl rfl ?_
    refine ga_take (i := 7) (ls' := [true, true, true, true, true, true, true, true, false, false]) rfl (by kernel_rfl) rfl (fun _ _ _ => val_extract rfl rfl) rfl rfl rfl ?_
    refine ga_take (i := 8) (ls' := [true, true, true, true, true, true, true, true, true, false]) rfl (by kernel_rfl) rfl (fun _ _ _ => val_assign rfl) rfl rfl rfl ?_
    refine ga_take (i := 9) (ls' := [true, true, true, true, true, true, true, true, true, true]) rfl (by kernel_rfl) rfl (fun _ _ _ => val_assign rfl) rfl rfl rfl ?_
    refine ga_done (by kernel_rfl) ?_
    refine gk_seq ?_
    refine gc_seq ?_
    refine ga_start (m := 10) (ls := [false, false, false, false, false, false, false, false, false, false]) kmixed rfl rfl ?_
    apply share1 (α := Nat) (m' := 6) (ls' := [true, true, true, true, false, false, false, false, false, false])
    · intro hD0
      refine ga_take (i := 1) (ls' := [false, true, false, false, false, false, false, false, false, false]) rfl (by kernel_rfl) rfl (fun _ _ _ => val_move rfl) rfl rfl rfl ?_
      refine ga_take (i := 2) (ls' := [false, true, true, false, false, false, false, false, false, false]) rfl (by kernel_rfl) rfl (fun _ _ _ => val_andK rfl rfl hr) rfl rfl rfl ?_
      refine ga_branch (rs := [0, 3]) (by kernel_rfl) rfl (.cons (ls' := [true, true, true, false, false, false, false, false, false, false]) rfl rfl ?_ (.cons (ls' := [false, true, true, true, false, false, false, false, false, false]) rfl rfl ?_ .nil))
      · skip
        refine gs_val (val_loadA kag24 rfl (sees_mem (by repeat (first | exact .head _ | refine .tail _ ?_ | refine List.mem_append_right _ ?_))) rfl rfl) rfl rfl rfl ?_
        refine ga_branch (rs := [3]) (by kernel_rfl) rfl (.cons (ls' := [true, true, true, true, false, false, false, false, false, false]) rfl rfl ?_ .nil)
        refine gs_make1 (ln := r) (cp := r) ksl37 kze5 rfl rfl rfl rfl rfl (by omega) rfl (by omega) rfl rfl (fun b38 => ?_)
        refine gx_env (F := [(0, _), (1, _), (2, _), (4, _), (5, _), (6, _), (7, _), (8, _), (10, _), (13, _), (14, _), (15, _), (16, _), (17, _), (18, _), (19, _), (20, _), (21, _), (22, _), (23, _), (24, _), (25, _), (26, _), (27, _), (28, _), (29, _), (30, _), (31, _), (32, _), (33, _), (35, _), (36, _), (37, _), (38, _)]) (.cons rfl (.cons rfl (.cons rfl (.cons rfl (.cons rfl (.cons rfl (.cons rfl (.cons rfl (.cons rfl (.cons rfl (.cons rfl (.cons rfl (.cons rfl (.cons rfl (.cons rfl (.cons rfl (.cons rfl (.cons rfl (.cons rfl (.cons rfl (.cons rfl (.cons rfl (.cons rfl (.cons rfl (.cons rfl (.cons rfl (.cons rfl (.cons rfl (.cons rfl (.cons rfl (.cons rfl (.cons rfl (.cons rfl (.cons rfl .nil)))))))))))))))))))))))))))))))))) (gx_perm (by first | exact .refl _ | (repeat (first | exact .refl _ | refine perm_take (by first | exact .head | exact .tail .head | exact .tail (.tail .head) | exact .tail (.tail (.tail .head)) | exact .tail (.tail (.tail (.tail .head))) | exact .tail (.tail (.tail (.tail (.tail .head))))) ?_))) (hD0 b38 True.intro))
      · skip
        refine gs_make1 (ln := r) (cp := r) ksl37 kze5 rfl rfl rfl rfl rfl (by omega) rfl (by omega) rfl rfl (fun b38 => ?_)
        refine ga_branch (rs := [0]) (by kernel_rfl) rfl (.cons (ls' := [true, true, true, true, false, false, false, false, false, false]) rfl rfl ?_ .nil)
        refine gs_val (val_loadA kag24 rfl (sees_mem (by repeat (first | exact .head _ | refine .tail _ ?_ | refine List.mem_append_right _ ?_))) rfl rfl) rfl rfl rfl ?_
        refine gx_env (F := [(0, _), (1, _), (2, _), (4, _), (5, _), (6, _), (7, _), (8, _), (10, _), (13, _), (14, _), (15, _), (16, _), (17, _), (18, _), (19, _), (20, _), (21, _), (22, _), (23, _), (24, _), (25, _), (26, _), (27, _), (28, _), (29, _), (30, _), (31, _), (32, _), (33, _), (35, _), (36, _), (37, _), (38, _)]) (.cons rfl (.cons rfl (.cons rfl (.cons rfl (.cons rfl (.cons rfl (.cons rfl (.cons rfl (.cons rfl (.cons rfl (.cons rfl (.cons rfl (.cons rfl (.cons rfl (.cons rfl (.cons rfl (.cons rfl (.cons rfl (.cons rfl (.cons rfl (.cons rfl (.cons rfl (.cons rfl (.cons rfl (.cons rfl (.cons rfl (.cons rfl (.cons rfl (.cons rfl (.cons rfl (.cons rfl (.cons rfl (.cons rfl (.cons rfl .nil)))))))))))))))))))))))))))))))))) (gx_perm (by first | exact .refl _ | (repeat (first | exact .refl _ | refine perm_take (by first | exact .head | exact .tail .head | exact .tail (.tail .head) | exact .tail (.tail (.tail .head)) | exact .tail (.tail (.tail (.tail .head))) | exact .tail (.tail (.tail (.tail (.tail .head))))) ?_))) (hD0 b38 True.intro))
    · rintro b38 _
      refine ga_branch (rs := [4]) (by kernel_rfl) rfl (.cons (ls' := [true, true, true, true, true, false, false, false, false, false]) rfl rfl ?_ .nil)
      refine gs_makes (enters kcall82 (.cons rfl (.cons rfl .nil))) (open_spec k (some ⟨b38, 0, none⟩) r r (List.replicate r (0 : UInt8)) hzr (by omega) (Nat.le_refl _)) rfl rfl rfl (row_of_sees ((sees_all (by repeat (first | exact .head _ | refine .tail _ ?_ | refine List.mem_append_right _ ?_))).cast (hz _))) (fun ⟨ba39, c39, N39⟩ h39 => ?_)
      have o39 : Own 5 1 ba39 (openL k (List.replicate r (0 : UInt8))).length c39 ((openL k (List.replicate r (0 : UInt8))).map U8) N39 := h39
      refine ga_take (i := 5) (ls' := [true, true, true, true, true, true, false, false, false, false]) rfl (by kernel_rfl) rfl (fun _ _ _ => val_move rfl) rfl rfl rfl ?_
      refine ga_take (i := 6) (ls' := [true, true, true, true, true, true, true, false, false, false]) rfl (by kernel_rfl) rfl (fun _ _ _ => val_extract rfl rfl) rfl rfl rfl ?_
      refine ga_take (i := 7) (ls' := [true, true, true, true, true, true, true, true, false, false]) rfl (by kernel_rfl) rfl (fun _ _ _ => val_extract rfl rfl) rfl rfl rfl ?_
      refine ga_take (i := 8) (ls' := [true, true, true, true, true, true, true, true, true, false]) rfl (by kernel_rfl) rfl (fun _ _ _ => val_assign rfl) rfl rfl rfl ?_
      refine ga_take (i := 9) (ls' := [true, true, true, true, true, true, true, true, true, true]) rfl (by kernel_rfl) rfl (fun _ _ _ => val_assign rfl) rfl rfl rfl ?_
      refine ga_done (by kernel_rfl) ?_
      refine gk_seq ?_
      refine gc_seq ?_
      refine gc_seq ?_
      refine gc_region ?_
      refine gl_cons (gs_pure (enters kcall78 .nil) (told08_spec) rfl rfl rfl (fun _ _ => trivial) ?_)
      refine gl_cons (gs_val (val_not rfl) rfl rfl rfl ?_)
      refine gl_cons (gs_val (val_move rfl) rfl rfl rfl ?_)
      refine gl_cons (gs_val (val_move rfl) rfl rfl rfl ?_)
      refine gl_cons (gs_val (val_no (val_neq rfl rfl) (fun h => h hor.1)) rfl rfl rfl ?_)
      refine gl_cons (gs_val (val_pick_f rfl rfl) rfl rfl rfl ?_)
      refine gl_cons (gs_val (val_move rfl) rfl rfl rfl ?_)
      refine gl_cons (gs_val (val_move rfl) rfl rfl rfl ?_)
      refine gl_cons (gs_val (val_no (val_gtr rfl rfl) (by omega)) rfl rfl rfl ?_)
      refine gl_cons (gs_val (val_move rfl) rfl rfl rfl ?_)
      refine gl_cons (gs_skip rfl rfl rfl ?_)
      refine gl_cons (gs_skip rfl rfl rfl ?_)
      refine gl_cons (gs_val (val_pick_f rfl rfl) rfl rfl rfl ?_)
      refine gl_cons (gs_val (val_pick_f rfl rfl) rfl rfl rfl ?_)
      refine gl_cons (gs_val (val_move rfl) rfl rfl rfl ?_)
      refine gl_cons (gs_val (val_move rfl) rfl rfl rfl ?_)
      refine gl_cons (gs_val (val_yes (val_leq rfl rfl) (by omega)) rfl rfl rfl ?_)
      refine gl_cons (gs_val (val_move rfl) rfl rfl rfl ?_)
      refine gl_cons (gs_val (val_move rfl) rfl rfl rfl ?_)
      refine gl_cons (gs_val (val_no (val_eql rfl rfl) (fun h => openE_not2 k (List.replicate (q + 8) (0 : UInt8)) (by omega) h)) rfl rfl rfl ?_)
      refine gl_cons (gs_val (val_pick_t rfl rfl) rfl rfl rfl ?_)
      refine gl_cons (gs_val (val_pick_f rfl rfl) rfl rfl rfl ?_)
      refine gl_nil ?_
      refine gk_seq ?_
      refine gc_false rfl ?_
      refine gc_skip ?_
      refine gk_seq ?_
      refine gc_seq ?_
      refine gc_seq ?_
      refine gc_region ?_
      refine gl_cons (gs_val (val_move rfl) rfl rfl rfl ?_)
      refine gl_cons (gs_val (val_no (val_gtr rfl rfl) (by omega)) rfl rfl rfl ?_)
      refine gl_nil ?_
      refine gk_seq ?_
      refine gc_false rfl ?_
      refine gc_skip ?_
      refine gk_seq ?_
      refine gc_seq ?_
      refine gc_region ?_
      refine gl_cons (gs_val (val_move rfl) rfl rfl rfl ?_)
      refine gl_cons (gs_val (val_lenSli ksl37 rfl) rfl rfl rfl ?_)
      refine gl_cons (gs_val (val_move rfl) rfl rfl rfl ?_)
      refine gl_cons (gs_val (val_addI rfl rfl (by omega)) rfl rfl rfl ?_)
      refine gl_cons (gs_val (val_yes (val_eql rfl rfl) (by rw [hsz]; rfl)) rfl rfl rfl ?_)
      refine gl_cons (gs_val (val_move rfl) rfl rfl rfl ?_)
      refine gl_cons (gs_val (val_loadA kag24 rfl (sees_mem (by repeat (first | exact .head _ | refine .tail _ ?_ | refine List.mem_append_right _ ?_))) rfl rfl) rfl rfl rfl ?_)
      refine gl_cons (gs_val (val_loadA kag24 rfl (sees_mem (by repeat (first | exact .head _ | refine .tail _ ?_ | refine List.mem_append_right _ ?_))) rfl rfl) rfl rfl rfl ?_)
      refine gl_cons (gs_val (val_move rfl) rfl rfl rfl ?_)
      refine gl_cons (gs_pure (enters kcall80 (.cons rfl (.cons rfl (.cons rfl .nil)))) (opens_yes (commitW k (List.replicate q (0 : UInt8))) k (some ⟨b19, 0, none⟩) q q (List.replicate q (0 : UInt8)) hzl (by omega) (Nat.le_refl _) ⟨by omega, rfl⟩) rfl rfl rfl (row_of_sees ((sees_all (by repeat (first | exact .head _ | refine .tail _ ?_ | refine List.mem_append_right _ ?_))).cast (hz _))) ?_)
      refine gl_cons (gs_val (val_pick_t rfl rfl) rfl rfl rfl ?_)
      refine gl_cons (gs_val (val_assign rfl) rfl rfl rfl ?_)
      refine gl_nil ?_
      refine gk_seq ?_
      refine gc_ret ?_
      refine gk_ret rfl (resv_tmp rfl .nil) (List.nil_sublist _) ?_
      exact ⟨rfl, rfl⟩

set_option maxRecDepth 8000 in
/-- baize/baizelaw08.VeilLong -/
theorem long_not (k : BitVec 64) (m : Int) (q' q r : Nat) (hq' : (BitVec.ofInt 64 m % 12#64).toNat = q') (hql' : q' < 12) (hq : q = 65530 + q') (hr : Op.intBits .and .i64 m 7 = pure (I64 (r : Int))) (hr7 : r ≤ 7) (h : 65536 < q) : Pure Try.prog 25 ([Dig k, I64 m]).toArray (fun _ => True) (.bool true) := by
  have hz : ∀ i : Nat, (List.replicate i (.int .u8 0) : List Value) = (List.replicate i (0 : UInt8)).map U8 := fun i => by rw [List.map_replicate]; rfl
  have hzl : (List.replicate q (0 : UInt8)).length = q := List.length_replicate
  have hz8 : (List.replicate (q + 8) (0 : UInt8)).length = q + 8 := List.length_replicate
  have hzr : (List.replicate r (0 : UInt8)).length = r := List.length_replicate
  have hor := openE_short k (List.replicate r (0 : UInt8)) (by omega)
  have ho8 := openE_long k (List.replicate (q + 8) (0 : UInt8)) (by omega)
  have hc0 : commitW k (List.replicate q (0 : UInt8)) = 0#64 := if_neg (by omega)
  refine spec_walk (n := 92) Try.func25 rfl rfl rfl (fun w0 hpre => ?_)
  refine gc_seq ?_
  refine gc_region ?_
  refine gl_cons (gs_box rfl rfl rfl rfl (fun b2 => ?_))
  refine gl_cons (gs_val (val_assign rfl) rfl rfl rfl ?_)
  refine gl_nil ?_
  refine gk_seq ?_
  refine gc_seq ?_
  refine gc_region ?_
  refine gl_cons (gs_val (val_move rfl) rfl rfl rfl ?_)
  refine gl_cons (gs_val (val_conv64 rfl kis3 kun23) rfl rfl rfl ?_)
  refine gl_cons (gs_val (val_rem64 (j := 12#64) rfl rfl rfl rfl (by decide)) rfl rfl rfl ?_)
  refine gl_cons (gs_val (val_cast (v := I64 (q' : Int)) (val_convI rfl kis23 kun3 (by rw [hq']; omega)) (congrArg (fun z : Nat => I64 (z : Int)) hq')) rfl rfl rfl ?_)
  refine gl_cons (gs_val (val_cast (v := I64 (q : Int)) (val_addI rfl rfl (by omega)) (congrArg I64 (by omega))) rfl rfl rfl ?_)
  refine gl_cons (gs_val (val_assign rfl) rfl rfl rfl ?_)
  refine gl_nil ?_
  refine gk_seq ?_
  refine gc_seq ?_
  refine gc_region ?_
  refine gl_cons (gs_val (val_move rfl) rfl rfl rfl ?_)
  refine gl_cons (gs_make1 (ln := q) (cp := q) ksl37 kze5 rfl rfl rfl rfl rfl (by omega) rfl (by omega) rfl rfl (fun b19 => ?_))
  refine gl_cons (gs_val (val_assign rfl) rfl rfl rfl ?_)
  refine gl_nil ?_
  refine gk_seq ?_
  refine gc_seq ?_
  refine gc_region ?_
  refine gl_cons (gs_val (val_loadA kag24 rfl (sees_mem (by repeat (first | exact .head _ | refine .tail _ ?_ | refine List.mem_append_right _ ?_))) rfl rfl) rfl rfl rfl ?_)
  refine gl_cons (gs_val (val_move rfl) rfl rfl rfl ?_)
  refine gl_cons (gs_pure (enters kcall81 (.cons rfl (.cons rfl .nil))) (seal_no k (some ⟨b19, 0, none⟩) q q h) rfl rfl rfl (fun _ _ => trivial) ?_)
  refine gl_cons (gs_val (val_assign rfl) rfl rfl rfl ?_)
  refine gl_nil ?_
  refine gk_seq ?_
  refine gc_seq ?_
  refine gc_region ?_
  refine gl_cons (gs_val (val_loadA kag24 rfl (sees_mem (by repeat (first | exact .head _ | refine .tail _ ?_ | refine List.mem_append_right _ ?_))) rfl rfl) rfl rfl rfl ?_)
  refine gl_cons (gs_val (val_move rfl) rfl rfl rfl ?_)
  refine gl_cons (gs_pure (enters kcall79 (.cons rfl (.cons rfl .nil))) (commit_spec k (some ⟨b19, 0, none⟩) q q (List.replicate q (0 : UInt8)) hzl (by omega) (Nat.le_refl _)) rfl rfl rfl (row_of_sees ((sees_all (by repeat (first | exact .head _ | refine .tail _ ?_ | refine List.mem_append_right _ ?_))).cast (hz _))) ?_)
  refine gl_cons (gs_alloc kze24 rfl rfl rfl (fun b8 => ?_))
  refine gl_cons (gs_store ksz24 rfl rfl rfl rfl rfl rfl (by first | exact .head | exact .tail .head | exact .tail (.tail .head) | exact .tail (.tail (.tail .head)) | exact .tail (.tail (.tail (.tail .head))) | exact .tail (.tail (.tail (.tail (.tail .head))))) (by simp) (by first | ((with_reducible refine splice_all _ _ ?_); simp; done) | (simp only [splice, stL, digL, List.take_succ_cons, List.take_zero, List.drop_succ_cons, List.drop_zero, List.length_cons, List.length_nil, Nat.reduceAdd, Nat.reduceMul, Nat.zero_add, Nat.zero_mul, List.cons_append, List.nil_append]; exact rfl)) ?_)
  refine gl_nil ?_
  refine gk_seq ?_
  refine gc_seq ?_
  refine ga_start (m := 10) (ls := [false, false, false, false, false, false, false, false, false, false]) kmixed rfl rfl ?_
  apply share1 (α := Nat) (m' := 6) (ls' := [true, true, true, true, false, false, false, false, false, false])
  · intro hD0
    refine ga_take (i := 1) (ls' := [false, true, false, false, false, false, false, false, false, false]) rfl (by kernel_rfl) rfl (fun _ _ _ => val_move rfl) rfl rfl rfl ?_
    refine ga_take (i := 2) (ls' := [false, true, true, false, false, false, false, false, false, false]) rfl (by kernel_rfl) rfl (fun _ _ _ => val_cast (v := I64 ((q + 8 : Nat) : Int)) (val_addI rfl rfl (by omega)) rfl) rfl rfl rfl ?_
    refine ga_branch (rs := [0, 3]) (by kernel_rfl) rfl (.cons (ls' := [true, true, true, false, false, false, false, false, false, false]) rfl rfl ?_ (.cons (ls' := [false, true, true, true, false, false, false, false, false, false]) rfl rfl ?_ .nil))
    · skip
      refine gs_val (val_loadA kag24 rfl (sees_mem (by repeat (first | exact .head _ | refine .tail _ ?_ | refine List.mem_append_right _ ?_))) rfl rfl) rfl rfl rfl ?_
      refine ga_branch (rs := [3]) (by kernel_rfl) rfl (.cons (ls' := [true, true, true, true, false, false, false, false, false, false]) rfl rfl ?_ .nil)
      refine gs_make1 (ln := q + 8) (cp := q + 8) ksl37 kze5 rfl rfl rfl rfl rfl (by omega) rfl (by omega) rfl rfl (fun b30 => ?_)
      refine gx_env (F := [(0, _), (1, _), (2, _), (4, _), (5, _), (6, _), (7, _), (8, _), (13, _), (14, _), (15, _), (16, _), (17, _), (18, _), (19, _), (20, _), (21, _), (22, _), (23, _), (24, _), (25, _), (27, _), (28, _), (29, _), (30, _)]) (.cons rfl (.cons rfl (.cons rfl (.cons rfl (.cons rfl (.cons rfl (.cons rfl (.cons rfl (.cons rfl (.cons rfl (.cons rfl (.cons rfl (.cons rfl (.cons rfl (.cons rfl (.cons rfl (.cons rfl (.cons rfl (.cons rfl (.cons rfl (.cons rfl (.cons rfl (.cons rfl (.cons rfl (.cons rfl .nil))))))))))))))))))))))))) (gx_perm (by first | exact .refl _ | (repeat (first | exact .refl _ | refine perm_take (by first | exact .head | exact .tail .head | exact .tail (.tail .head) | exact .tail (.tail (.tail .head)) | exact .tail (.tail (.tail (.tail .head))) | exact .tail (.tail (.tail (.tail (.tail .head))))) ?_))) (hD0 b30 True.intro))
    · skip
      refine gs_make1 (ln := q + 8) (cp := q + 8) ksl37 kze5 rfl rfl rfl rfl rfl (by omega) rfl (by omega) rfl rfl (fun b30 => ?_)
      refine ga_branch (rs := [0]) (by kernel_rfl) rfl (.cons (ls' := [true, true, true, true, false, false, false, false, false, false]) rfl rfl ?_ .nil)
      refine gs_val (val_loadA kag24 rfl (sees_mem (by repeat (first | exact .head _ | refine .tail _ ?_ | refine List.mem_append_right _ ?_))) rfl rfl) rfl rfl rfl ?_
      refine gx_env (F := [(0, _), (1, _), (2, _), (4, _), (5, _), (6, _), (7, _), (8, _), (13, _), (14, _), (15, _), (16, _), (17, _), (18, _), (19, _), (20, _), (21, _), (22, _), (23, _), (24, _), (25, _), (27, _), (28, _), (29, _), (30, _)]) (.cons rfl (.cons rfl (.cons rfl (.cons rfl (.cons rfl (.cons rfl (.cons rfl (.cons rfl (.cons rfl (.cons rfl (.cons rfl (.cons rfl (.cons rfl (.cons rfl (.cons rfl (.cons rfl (.cons rfl (.cons rfl (.cons rfl (.cons rfl (.cons rfl (.cons rfl (.cons rfl (.cons rfl (.cons rfl .nil))))))))))))))))))))))))) (gx_perm (by first | exact .refl _ | (repeat (first | exact .refl _ | refine perm_take (by first | exact .head | exact .tail .head | exact .tail (.tail .head) | exact .tail (.tail (.tail .head)) | exact .tail (.tail (.tail (.tail .head))) | exact .tail (.tail (.tail (.tail (.tail .head))))) ?_))) (hD0 b30 True.intro))
  · rintro b30 _
    refine ga_branch (rs := [4]) (by kernel_rfl) rfl (.cons (ls' := [true, true, true, true, true, false, false, false, false, false]) rfl rfl ?_ .nil)
    refine gs_makes (enters kcall82 (.cons rfl (.cons rfl .nil))) (open_spec k (some ⟨b30, 0, none⟩) (q + 8) (q + 8) (List.replicate (q + 8) (0 : UInt8)) hz8 (by omega) (Nat.le_refl _)) rfl rfl rfl (row_of_sees ((sees_all (by repeat (first | exact .head _ | refine .tail _ ?_ | refine List.mem_append_right _ ?_))).cast (hz _))) (fun ⟨ba31, c31, N31⟩ h31 => ?_)
    have o31 : Own 5 1 ba31 (openL k (List.replicate (q + 8) (0 : UInt8))).length c31 ((openL k (List.replicate (q + 8) (0 : UInt8))).map U8) N31 := h31
    refine ga_take (i := 5) (ls' := [true, true, true, true, true, true, false, false, false, false]) rfl (by kernel_rfl) rfl (fun _ _ _ => val_move rfl) rfl rfl rfl ?_
    refine ga_take (i := 6) (ls' := [true, true, true, true, true, true, true, false, false, false]) rfl (by kernel_rfl) rfl (fun _ _ _ => val_extract rfl rfl) rfl rfl rfl ?_
    refine ga_take (i := 7) (ls' := [true, true, true, true, true, true, true, true, false, false]) rfl (by kernel_rfl) rfl (fun _ _ _ => val_extract rfl rfl) rfl rfl rfl ?_
    refine ga_take (i := 8) (ls' := [true, true, true, true, true, true, true, true, true, false]) rfl (by kernel_rfl) rfl (fun _ _ _ => val_assign rfl) rfl rfl rfl ?_
    refine ga_take (i := 9) (ls' := [true, true, true, true, true, true, true, true, true, true]) rfl (by kernel_rfl) rfl (fun _ _ _ => val_assign rfl) rfl rfl rfl ?_
    refine ga_done (by kernel_rfl) ?_
    refine gk_seq ?_
    refine gc_seq ?_
    refine ga_start (m := 10) (ls := [false, false, false, false, false, false, false, false, false, false]) kmixed rfl rfl ?_
    apply share1 (α := Nat) (m' := 6) (ls' := [true, true, true, true, false, false, false, false, false, false])
    · intro hD0
      refine ga_take (i := 1) (ls' := [false, true, false, false, false, false, false, false, false, false]) rfl (by kernel_rfl) rfl (fun _ _ _ => val_move rfl) rfl rfl rfl ?_
      refine ga_take (i := 2) (ls' := [false, true, true, false, false, false, false, false, false, false]) rfl (by kernel_rfl) rfl (fun _ _ _ => val_andK rfl rfl hr) rfl rfl rfl ?_
      refine ga_branch (rs := [0, 3]) (by kernel_rfl) rfl (.cons (ls' := [true, true, true, false, false, false, false, false, false, false]) rfl rfl ?_ (.cons (ls' := [false, true, true, true, false, false, false, false, false, false]) rfl rfl ?_ .nil))
      · skip
        refine gs_val (val_loadA kag24 rfl (sees_mem (by repeat (first | exact .head _ | refine .tail _ ?_ | refine List.mem_append_right _ ?_))) rfl rfl) rfl rfl rfl ?_
        refine ga_branch (rs := [3]) (by kernel_rfl) rfl (.cons (ls' := [true, true, true, true, false, false, false, false, false, false]) rfl rfl ?_ .nil)
        refine gs_make1 (ln := r) (cp := r) ksl37 kze5 rfl rfl rfl rfl rfl (by omega) rfl (by omega) rfl rfl (fun b38 => ?_)
        refine gx_env (F := [(0, _), (1, _), (2, _), (4, _), (5, _), (6, _), (7, _), (8, _), (10, _), (13, _), (14, _), (15, _), (16, _), (17, _), (18, _), (19, _), (20, _), (21, _), (22, _), (23, _), (24, _), (25, _), (26, _), (27, _), (28, _), (29, _), (30, _), (31, _), (32, _), (33, _), (35, _), (36, _), (37, _), (38, _)]) (.cons rfl (.cons rfl (.cons rfl (.cons rfl (.cons rfl (.cons rfl (.cons rfl (.cons rfl (.cons rfl (.cons rfl (.cons rfl (.cons rfl (.cons rfl (.cons rfl (.cons rfl (.cons rfl (.cons rfl (.cons rfl (.cons rfl (.cons rfl (.cons rfl (.cons rfl (.cons rfl (.cons rfl (.cons rfl (.cons rfl (.cons rfl (.cons rfl (.cons rfl (.cons rfl (.cons rfl (.cons rfl (.cons rfl (.cons rfl .nil)))))))))))))))))))))))))))))))))) (gx_perm (by first | exact .refl _ | (repeat (first | exact .refl _ | refine perm_take (by first | exact .head | exact .tail .head | exact .tail (.tail .head) | exact .tail (.tail (.tail .head)) | exact .tail (.tail (.tail (.tail .head))) | exact .tail (.tail (.tail (.tail (.tail .head))))) ?_))) (hD0 b38 True.intro))
      · skip
        refine gs_make1 (ln := r) (cp := r) ksl37 kze5 rfl rfl rfl rfl rfl (by omega) rfl (by omega) rfl rfl (fun b38 => ?_)
        refine ga_branch (rs := [0]) (by kernel_rfl) rfl (.cons (ls' := [true, true, true, true, false, false, false, false, false, false]) rfl rfl ?_ .nil)
        refine gs_val (val_loadA kag24 rfl (sees_mem (by repeat (first | exact .head _ | refine .tail _ ?_ | refine List.mem_append_right _ ?_))) rfl rfl) rfl rfl rfl ?_
        refine gx_env (F := [(0, _), (1, _), (2, _), (4, _), (5, _), (6, _), (7, _), (8, _), (10, _), (13, _), (14, _), (15, _), (16, _), (17, _), (18, _), (19, _), (20, _), (21, _), (22, _), (23, _), (24, _), (25, _), (26, _), (27, _), (28, _), (29, _), (30, _), (31, _), (32, _), (33, _), (35, _), (36, _), (37, _), (38, _)]) (.cons rfl (.cons rfl (.cons rfl (.cons rfl (.cons rfl (.cons rfl (.cons rfl (.cons rfl (.cons rfl (.cons rfl (.cons rfl (.cons rfl (.cons rfl (.cons rfl (.cons rfl (.cons rfl (.cons rfl (.cons rfl (.cons rfl (.cons rfl (.cons rfl (.cons rfl (.cons rfl (.cons rfl (.cons rfl (.cons rfl (.cons rfl (.cons rfl (.cons rfl (.cons rfl (.cons rfl (.cons rfl (.cons rfl (.cons rfl .nil)))))))))))))))))))))))))))))))))) (gx_perm (by first | exact .refl _ | (repeat (first | exact .refl _ | refine perm_take (by first | exact .head | exact .tail .head | exact .tail (.tail .head) | exact .tail (.tail (.tail .head)) | exact .tail (.tail (.tail (.tail .head))) | exact .tail (.tail (.tail (.tail (.tail .head))))) ?_))) (hD0 b38 True.intro))
    · rintro b38 _
      refine ga_branch (rs := [4]) (by kernel_rfl) rfl (.cons (ls' := [true, true, true, true, true, false, false, false, false, false]) rfl rfl ?_ .nil)
      refine gs_makes (enters kcall82 (.cons rfl (.cons rfl .nil))) (open_spec k (some ⟨b38, 0, none⟩) r r (List.replicate r (0 : UInt8)) hzr (by omega) (Nat.le_refl _)) rfl rfl rfl (row_of_sees ((sees_all (by repeat (first | exact .head _ | refine .tail _ ?_ | refine List.mem_append_right _ ?_))).cast (hz _))) (fun ⟨ba39, c39, N39⟩ h39 => ?_)
      have o39 : Own 5 1 ba39 (openL k (List.replicate r (0 : UInt8))).length c39 ((openL k (List.replicate r (0 : UInt8))).map U8) N39 := h39
      refine ga_take (i := 5) (ls' := [true, true, true, true, true, true, false, false, false, false]) rfl (by kernel_rfl) rfl (fun _ _ _ => val_move rfl) rfl rfl rfl ?_
      refine ga_take (i := 6) (ls' := [true, true, true, true, true, true, true, false, false, false]) rfl (by kernel_rfl) rfl (fun _ _ _ => val_extract rfl rfl) rfl rfl rfl ?_
      refine ga_take (i := 7) (ls' := [true, true, true, true, true, true, true, true, false, false]) rfl (by kernel_rfl) rfl (fun _ _ _ => val_extract rfl rfl) rfl rfl rfl ?_
      refine ga_take (i := 8) (ls' := [true, true, true, true, true, true, true, true, true, false]) rfl (by kernel_rfl) rfl (fun _ _ _ => val_assign rfl) rfl rfl rfl ?_
      refine ga_take (i := 9) (ls' := [true, true, true, true, true, true, true, true, true, true]) rfl (by kernel_rfl) rfl (fun _ _ _ => val_assign rfl) rfl rfl rfl ?_
      refine ga_done (by kernel_rfl) ?_
      refine gk_seq ?_
      refine gc_seq ?_
      refine gc_seq ?_
      refine gc_region ?_
      refine gl_cons (gs_pure (enters kcall78 .nil) (told08_spec) rfl rfl rfl (fun _ _ => trivial) ?_)
      refine gl_cons (gs_val (val_not rfl) rfl rfl rfl ?_)
      refine gl_cons (gs_val (val_move rfl) rfl rfl rfl ?_)
      refine gl_cons (gs_val (val_move rfl) rfl rfl rfl ?_)
      refine gl_cons (gs_val (val_no (val_neq rfl rfl) (fun h => h hor.1)) rfl rfl rfl ?_)
      refine gl_cons (gs_val (val_pick_f rfl rfl) rfl rfl rfl ?_)
      refine gl_cons (gs_val (val_move rfl) rfl rfl rfl ?_)
      refine gl_cons (gs_val (val_move rfl) rfl rfl rfl ?_)
      refine gl_cons (gs_val (val_yes (val_gtr rfl rfl) (by omega)) rfl rfl rfl ?_)
      refine gl_cons (gs_val (val_move rfl) rfl rfl rfl ?_)
      refine gl_cons (gs_val (val_move rfl) rfl rfl rfl ?_)
      refine gl_cons (gs_val (val_no (val_neq rfl rfl) (fun h => h ho8.1)) rfl rfl rfl ?_)
      refine gl_cons (gs_val (val_pick_t rfl rfl) rfl rfl rfl ?_)
      refine gl_cons (gs_val (val_pick_f rfl rfl) rfl rfl rfl ?_)
      refine gl_cons (gs_val (val_move rfl) rfl rfl rfl ?_)
      refine gl_cons (gs_val (val_move rfl) rfl rfl rfl ?_)
      refine gl_cons (gs_val (val_no (val_leq rfl rfl) (by omega)) rfl rfl rfl ?_)
      refine gl_cons (gs_val (val_move rfl) rfl rfl rfl ?_)
      refine gl_cons (gs_skip rfl rfl rfl ?_)
      refine gl_cons (gs_skip rfl rfl rfl ?_)
      refine gl_cons (gs_val (val_pick_f rfl rfl) rfl rfl rfl ?_)
      refine gl_cons (gs_val (val_pick_f rfl rfl) rfl rfl rfl ?_)
      refine gl_nil ?_
      refine gk_seq ?_
      refine gc_false rfl ?_
      refine gc_skip ?_
      refine gk_seq ?_
      refine gc_seq ?_
      refine gc_seq ?_
      refine gc_region ?_
      refine gl_cons (gs_val (val_move rfl) rfl rfl rfl ?_)
      refine gl_cons (gs_val (val_yes (val_gtr rfl rfl) (by omega)) rfl rfl rfl ?_)
      refine gl_nil ?_
      refine gk_seq ?_
      refine gc_true rfl ?_
      refine gc_seq ?_
      refine gc_region ?_
      refine gl_cons (gs_val (val_move rfl) rfl rfl rfl ?_)
      refine gl_cons (gs_val (val_lenSli ksl37 rfl) rfl rfl rfl ?_)
      refine gl_cons (gs_val (val_yes (val_eql rfl rfl) rfl) rfl rfl rfl ?_)
      refine gl_cons (gs_val (val_move rfl) rfl rfl rfl ?_)
      refine gl_cons (gs_val (val_loadA kag24 rfl (sees_mem (by repeat (first | exact .head _ | refine .tail _ ?_ | refine List.mem_append_right _ ?_))) rfl rfl) rfl rfl rfl ?_)
      refine gl_cons (gs_val (val_buildZ kze24 rfl kar24) rfl rfl rfl ?_)
      refine gl_cons (gs_val (val_yes (val_eqlDig (j := 0#64) kdig24 rfl rfl rfl rfl) hc0) rfl rfl rfl ?_)
      refine gl_cons (gs_val (val_pick_t rfl rfl) rfl rfl rfl ?_)
      refine gl_cons (gs_val (val_move rfl) rfl rfl rfl ?_)
      refine gl_cons (gs_val (val_loadA kag24 rfl (sees_mem (by repeat (first | exact .head _ | refine .tail _ ?_ | refine List.mem_append_right _ ?_))) rfl rfl) rfl rfl rfl ?_)
      refine gl_cons (gs_val (val_loadA kag24 rfl (sees_mem (by repeat (first | exact .head _ | refine .tail _ ?_ | refine List.mem_append_right _ ?_))) rfl rfl) rfl rfl rfl ?_)
      refine gl_cons (gs_val (val_move rfl) rfl rfl rfl ?_)
      refine gl_cons (gs_pure (enters kcall80 (.cons rfl (.cons rfl (.cons rfl .nil)))) (opens_not (commitW k (List.replicate q (0 : UInt8))) k (some ⟨b19, 0, none⟩) q q (List.replicate q (0 : UInt8)) hzl (by omega) (Nat.le_refl _) (fun h => by omega)) rfl rfl rfl (row_of_sees ((sees_all (by repeat (first | exact .head _ | refine .tail _ ?_ | refine List.mem_append_right _ ?_))).cast (hz _))) ?_)
      refine gl_cons (gs_val (val_not rfl) rfl rfl rfl ?_)
      refine gl_cons (gs_val (val_pick_t rfl rfl) rfl rfl rfl ?_)
      refine gl_cons (gs_val (val_assign rfl) rfl rfl rfl ?_)
      refine gl_nil ?_
      refine gk_seq ?_
      refine gc_ret ?_
      refine gk_seq_ret ?_
      refine gk_ret rfl (resv_tmp rfl .nil) (List.nil_sublist _) ?_
      exact ⟨rfl, rfl⟩

theorem veilLong_walk (k : BitVec 64) (m : Int) : Pure Try.prog 25 ([Dig k, I64 m]).toArray (fun _ => True) (.bool true) := by
  obtain ⟨q', hq', hql'⟩ : ∃ q' : Nat, (BitVec.ofInt 64 m % 12#64).toNat = q' ∧ q' < 12 := ⟨_, rfl, by rw [BitVec.toNat_umod]; exact Nat.mod_lt _ (by decide)⟩
  obtain ⟨r, hr, hr7⟩ := and_seven m
  rcases Nat.lt_or_ge 65536 (65530 + q') with h | h
  · exact long_not k m q' _ r hq' hql' rfl hr hr7 h
  · exact long_fit k m q' _ r hq' hql' rfl hr hr7 h

set_option maxRecDepth 8000 in
/-- baize/baizelaw08.VeilOwn -/
theorem veilOwn_walk (k : BitVec 64) (ba : Option Addr) (n cap : Nat) (l : List UInt8) (hn : l.length = n) (hcap : n ≤ cap) (by' : UInt8) : Pure Try.prog 26 ([Dig k, .slice ba n cap, U8 by']).toArray (fun w => Row w [] ba (l.map U8)) (.bool true) := by
  obtain ⟨n2, hn2, hle, hle2⟩ : ∃ n2 : Nat, (if (300 : Int) < (n : Int) then (300 : Int) else (n : Int)) = (n2 : Int) ∧ n2 ≤ n ∧ n2 ≤ 300 := ⟨min 300 n, by split <;> omega, by omega, by omega⟩
  have hcap2 : n2 ≤ cap := by omega
  obtain ⟨l2, hl2⟩ : ∃ l2, l2 = l.take n2 := ⟨_, rfl⟩
  have hln : l2.length = n2 := by rw [hl2, List.length_take]; omega
  have hpl : (1 :: l2).length = n2 + 1 := by rw [List.length_cons, hln]
  have hp0 : 0 < (1 :: l2).length := by omega
  refine spec_walk (n := 95) Try.func26 rfl rfl rfl (fun w0 hpre => ?_)
  have hpre2 : Row w0 [] ba (l2.map U8) := by rw [hl2, List.map_take]; exact hpre.take n2
  refine gc_seq ?_
  refine gc_region ?_
  refine gl_cons (gs_box rfl rfl rfl rfl (fun b3 => ?_))
  refine gl_cons (gs_val (val_assign rfl) rfl rfl rfl ?_)
  refine gl_nil ?_
  refine gk_seq ?_
  refine gc_seq ?_
  refine gc_region ?_
  refine gl_cons (gs_buildSlice (zs := [.int .u8 0]) ksl37 kze5 rfl rfl (.cons rfl .nil) (.cons rfl rfl rfl (by simp) (by first | ((with_reducible refine splice_all _ _ ?_); simp; done) | (simp only [splice, stL, digL, List.take_succ_cons, List.take_zero, List.drop_succ_cons, List.drop_zero, List.length_cons, List.length_nil, Nat.reduceAdd, Nat.reduceMul, Nat.zero_add, Nat.zero_mul, List.cons_append, List.nil_append]; exact rfl)) .nil) rfl rfl (fun b15 => ?_))
  refine gl_cons (gs_val (val_move rfl) rfl rfl rfl ?_)
  refine gl_cons (gs_pure (enters kcall76 (.cons rfl .nil)) (few_spec ba n cap n2 hn2 hcap2) rfl rfl rfl (fun _ _ => trivial) ?_)
  refine gl_cons (gs_append ksl37 kze5 rfl rfl rfl rfl rfl rfl (own_lit (xs := [U8 1]) rfl) (fun _ => by first | exact .here | exact .headR | exact .app | exact .tail .here | exact .tail .headR | exact .tail .app | exact .tail (.tail .here) | exact .tail (.tail .headR) | exact .tail (.tail .app) | exact .tail (.tail (.tail .here)) | exact .tail (.tail (.tail .headR)) | exact .tail (.tail (.tail .app)) | exact .tail (.tail (.tail (.tail .here))) | exact .tail (.tail (.tail (.tail .headR))) | exact .tail (.tail (.tail (.tail .app))) | exact .tail (.tail (.tail (.tail (.tail .here)))) | exact .tail (.tail (.tail (.tail (.tail .headR)))) | exact .tail (.tail (.tail (.tail (.tail .app)))) | exact .appr .here | exact .appr .headR | exact .appr .app | exact .tail (.appr .here) | exact .tail (.appr .headR) | exact .tail (.appr .app) | exact .tail (.tail (.appr .here)) | exact .tail (.tail (.appr .headR)) | exact .tail (.tail (.appr .app)) | exact .appr (.tail .here) | exact .appr (.tail .headR) | exact .appr (.tail .app) | exact .appr (.tail (.tail .here)) | exact .appr (.tail (.tail .headR)) | exact .appr (.tail (.tail .app)) | exact .appr (.appr .here) | exact .appr (.appr .headR) | exact .appr (.appr .app) | exact .tail (.appr (.appr .here)) | exact .tail (.appr (.appr .headR)) | exact .tail (.appr (.appr .app)) | exact .appr (.appr (.tail .here)) | exact .appr (.appr (.tail .headR)) | exact .appr (.appr (.tail .app)) | exact .appr (.appr (.appr .here)) | exact .appr (.appr (.appr .headR)) | exact .appr (.appr (.appr .app))) (brings_slice ksl37 (sees_row hpre2) (by rw [List.length_map, hln, Nat.mul_one]) (one_map (fun _ => rfl) _)) (by omega) (fun ba18 c18 N18 hown18 => ?_))
  have p18 : Own 5 1 ba18 (1 + n2) c18 ((1 :: l2).map U8) N18 := hown18
  refine gl_cons (gs_val (val_assign rfl) rfl rfl rfl ?_)
  refine gl_nil ?_
  refine gk_seq ?_
  refine gc_seq ?_
  refine gc_region ?_
  refine gl_cons (gs_val (val_move rfl) rfl rfl rfl ?_)
  refine gl_cons (gs_val (val_bytesStr (l := (1 :: l2)) kun37 kun5 kun9 rfl (by omega) (p18.look (by repeat (first | exact .here | exact .headR | exact .app | refine .tail ?_ | refine .appr ?_)))) rfl rfl rfl ?_)
  refine gl_cons (gs_val (val_assign rfl) rfl rfl rfl ?_)
  refine gl_nil ?_
  refine gk_seq ?_
  refine gc_seq ?_
  refine gc_region ?_
  refine gl_cons (gs_val (val_loadA kag24 rfl (sees_mem (by repeat (first | exact .head _ | refine .tail _ ?_ | refine List.mem_append_right _ ?_))) rfl rfl) rfl rfl rfl ?_)
  refine gl_cons (gs_val (val_move rfl) rfl rfl rfl ?_)
  refine gl_cons (gs_makes (enters kcall81 (.cons rfl (.cons rfl .nil))) (seal_ok k ba18 (1 + n2) c18 (1 :: l2) (by omega) (by omega) p18.cap) rfl rfl rfl (row_of_sees (p18.look (by repeat (first | exact .here | exact .headR | exact .app | refine .tail ?_ | refine .appr ?_)))) (fun ⟨ba23, c23, N23, e23⟩ h23 => ?_))
  have o23 : Own e23 1 ba23 (sealL k (1 :: l2)).length c23 ((sealL k (1 :: l2)).map U8) N23 := h23
  refine gl_cons (gs_val (val_assign rfl) rfl rfl rfl ?_)
  refine gl_nil ?_
  refine gk_seq ?_
  refine gc_seq ?_
  refine gc_region ?_
  refine gl_cons (gs_val (val_move rfl) rfl rfl rfl ?_)
  refine gl_cons (gs_val (val_bytesStr (l := (sealL k (1 :: l2))) kun37 kun5 kun9 rfl rfl (o23.look (by repeat (first | exact .here | exact .headR | exact .app | refine .tail ?_ | refine .appr ?_)))) rfl rfl rfl ?_)
  refine gl_cons (gs_val (val_assign rfl) rfl rfl rfl ?_)
  refine gl_nil ?_
  refine gk_seq ?_
  refine gc_seq ?_
  refine gc_region ?_
  refine gl_cons (gs_val (val_loadA kag24 rfl (sees_mem (by repeat (first | exact .head _ | refine .tail _ ?_ | refine List.mem_append_right _ ?_))) rfl rfl) rfl rfl rfl ?_)
  refine gl_cons (gs_val (val_move rfl) rfl rfl rfl ?_)
  refine gl_cons (gs_makes (enters kcall82 (.cons rfl (.cons rfl .nil))) (open_spec k ba23 (sealL k (1 :: l2)).length c23 (sealL k (1 :: l2)) rfl (by rw [seal_len _ _ (by omega)]; omega) o23.cap) rfl rfl rfl (row_of_sees (o23.look (by repeat (first | exact .here | exact .headR | exact .app | refine .tail ?_ | refine .appr ?_)))) (fun ⟨ba29, c29, N29⟩ h29 => ?_))
  have o29 : Own 5 1 ba29 (1 :: l2).length c29 ((1 :: l2).map U8) N29 := by have := h29; dsimp only at this; rw [openL_seal _ _ (by omega)] at this; exact this
  rw [openL_seal k (1 :: l2) (by omega), openE_seal k (1 :: l2) (by omega)]
  refine gl_cons (gs_val (val_move rfl) rfl rfl rfl ?_)
  refine gl_cons (gs_val (val_extract rfl rfl) rfl rfl rfl ?_)
  refine gl_cons (gs_val (val_extract rfl rfl) rfl rfl rfl ?_)
  refine gl_cons (gs_val (val_assign rfl) rfl rfl rfl ?_)
  refine gl_cons (gs_val (val_assign rfl) rfl rfl rfl ?_)
  refine gl_nil ?_
  refine gk_seq ?_
  refine gc_seq ?_
  refine gc_seq ?_
  refine gc_region ?_
  refine gl_cons (gs_pure (enters kcall78 .nil) (told08_spec) rfl rfl rfl (fun _ _ => trivial) ?_)
  refine gl_cons (gs_val (val_not rfl) rfl rfl rfl ?_)
  refine gl_cons (gs_val (val_move rfl) rfl rfl rfl ?_)
  refine gl_cons (gs_val (val_move rfl) rfl rfl rfl ?_)
  refine gl_cons (gs_val (val_bytesStr (l := (1 :: l2)) kun37 kun5 kun9 rfl (by omega) (p18.look (by repeat (first | exact .here | exact .headR | exact .app | refine .tail ?_ | refine .appr ?_)))) rfl rfl rfl ?_)
  refine gl_cons (gs_val (val_move rfl) rfl rfl rfl ?_)
  refine gl_cons (gs_val (val_no (val_neqS rfl rfl) (fun h => h rfl)) rfl rfl rfl ?_)
  refine gl_cons (gs_val (val_pick_f rfl rfl) rfl rfl rfl ?_)
  refine gl_cons (gs_val (val_move rfl) rfl rfl rfl ?_)
  refine gl_cons (gs_val (val_move rfl) rfl rfl rfl ?_)
  refine gl_cons (gs_val (val_bytesStr (l := (sealL k (1 :: l2))) kun37 kun5 kun9 rfl rfl (o23.look (by repeat (first | exact .here | exact .headR | exact .app | refine .tail ?_ | refine .appr ?_)))) rfl rfl rfl ?_)
  refine gl_cons (gs_val (val_move rfl) rfl rfl rfl ?_)
  refine gl_cons (gs_val (val_no (val_neqS rfl rfl) (fun h => h rfl)) rfl rfl rfl ?_)
  refine gl_cons (gs_val (val_pick_f rfl rfl) rfl rfl rfl ?_)
  refine gl_cons (gs_val (val_move rfl) rfl rfl rfl ?_)
  refine gl_cons (gs_val (val_move rfl) rfl rfl rfl ?_)
  refine gl_cons (gs_val (val_lenSli ksl37 rfl) rfl rfl rfl ?_)
  refine gl_cons (gs_val (val_move rfl) rfl rfl rfl ?_)
  refine gl_cons (gs_val (val_lenSli ksl37 rfl) rfl rfl rfl ?_)
  refine gl_cons (gs_val (val_no (val_neq rfl rfl) (fun h => h (by omega))) rfl rfl rfl ?_)
  refine gl_cons (gs_val (val_pick_f rfl rfl) rfl rfl rfl ?_)
  refine gl_nil ?_
  refine gk_seq ?_
  refine gc_false rfl ?_
  refine gc_skip ?_
  refine gk_seq ?_
  refine gc_seq ?_
  refine gc_seq ?_
  refine gc_region ?_
  refine gl_cons (gs_val (val_assign rfl) rfl rfl rfl ?_)
  refine gl_nil ?_
  refine gk_seq ?_
  refine gc_block ?_
  refine gc_loop (σ := Nat × List UInt8 × List Ent) (I := fun v => v.1 ≤ (1 :: l2).length ∧ v.2.1.length = (1 :: l2).length ∧ Own 5 1 ba29 (1 :: l2).length c29 (v.2.1.map U8) v.2.2) (μ := fun v => (1 :: l2).length - v.1) (EI := fun v => [(12, I64 (v.1 : Int)), (1, .slice ba18 (1 + n2) c18), (2, U8 by'), (3, .pointer (some ⟨b3, 0, none⟩)), (6, .bool false), (7, .string ⟨(1 :: l2).toArray⟩), (8, .slice ba23 (sealL k (1 :: l2)).length c23), (9, .string ⟨(sealL k (1 :: l2)).toArray⟩), (10, .slice ba29 (1 :: l2).length c29)]) (LI := fun v => v.2.2 ++ (N23 ++ (⟨b3, .cells (digL k).toArray 24 (0, 0)⟩ :: N18))) (0, (1 :: l2), N29) ?_ ?_ ?_ ?_
  · exact ⟨Nat.zero_le _, rfl, o29⟩
  · exact (.cons rfl (.cons rfl (.cons rfl (.cons rfl (.cons rfl (.cons rfl (.cons rfl (.cons rfl (.cons rfl .nil)))))))))
  · exact fun _ h => h
  · intro ⟨j, xs, N⟩ ⟨hjn, hxl, hown⟩
    dsimp only
    have hjn : j ≤ (1 :: l2).length := hjn
    have hxl : xs.length = (1 :: l2).length := hxl
    have hown : Own 5 1 ba29 (1 :: l2).length c29 (xs.map U8) N := hown
    refine gc_seq ?_
    refine gc_seq ?_
    refine gc_region ?_
    refine gl_cons (gs_val (val_move rfl) rfl rfl rfl ?_)
    refine gl_cons (gs_val (val_move rfl) rfl rfl rfl ?_)
    refine gl_cons (gs_val (val_lenSli ksl37 rfl) rfl rfl rfl ?_)
    refine gl_cons (gs_val (val_lss rfl rfl) rfl rfl rfl ?_)
    refine gl_nil ?_
    refine gk_seq ?_
    refine gc_if rfl (fun hj => ?_) (fun hj => ?_)
    · have hj : j < (1 :: l2).length := by omega
      have hjx : j < xs.length := by omega
      refine gc_skip ?_
      refine gk_seq ?_
      refine gc_seq ?_
      refine gc_block ?_
      refine gc_region ?_
      refine gl_cons (gs_val (val_move rfl) rfl rfl rfl ?_)
      refine gl_cons (gs_val (val_move rfl) rfl rfl rfl ?_)
      refine gl_cons (gs_val (val_move rfl) rfl rfl rfl ?_)
      refine gl_cons (gs_val (val_move rfl) rfl rfl rfl ?_)
      refine gl_cons (gs_val (val_indexSli (m := j) ksl37 rfl rfl (by omega) (by omega) (hown.look (by repeat (first | exact .here | exact .headR | exact .app | refine .tail ?_ | refine .appr ?_))) (by (try simp only [List.length_map, Nat.mul_one, dig_len, inc_len, List.length_append, List.length_cons, List.length_nil, List.length_replicate]); omega)) rfl rfl rfl ?_)
      refine gl_cons (gs_val (val_load1 (v := U8 (xs[j]'hjx)) kag5 rfl ((hown.look (by repeat (first | exact .here | exact .headR | exact .app | refine .tail ?_ | refine .appr ?_))).elem hjx) rfl) rfl rfl rfl ?_)
      refine gl_cons (gs_val (val_move rfl) rfl rfl rfl ?_)
      refine gl_cons (gs_val (val_add8 rfl rfl) rfl rfl rfl ?_)
      refine gl_cons (gs_val (val_indexSli (m := j) ksl37 rfl rfl (by omega) (by omega) (hown.look (by repeat (first | exact .here | exact .headR | exact .app | refine .tail ?_ | refine .appr ?_))) (by (try simp only [List.length_map, Nat.mul_one, dig_len, inc_len, List.length_append, List.length_cons, List.length_nil, List.length_replicate]); omega)) rfl rfl rfl ?_)
      refine gl_cons (gs_storeOwn (m := j) (v := U8 (xs[j]'hjx + by')) ksz5 rfl rfl rfl rfl rfl hown (by rw [List.length_map]; exact hjx) (fun _ => .app) (fun N2 hin => ?_))
      have hin2 : Own 5 1 ba29 (1 :: l2).length c29 ((xs.set j (xs[j]'hjx + by')).map U8) N2 := by rw [List.map_set]; exact hin
      refine gl_nil ?_
      refine gk_block ?_
      refine gk_seq ?_
      refine gc_region ?_
      refine gl_cons (gs_val (val_move rfl) rfl rfl rfl ?_)
      refine gl_cons (gs_val (val_addI rfl rfl (by omega)) rfl rfl rfl ?_)
      refine gl_cons (gs_val (val_assign rfl) rfl rfl rfl ?_)
      refine gl_nil ?_
      refine gk_again (j + 1, xs.set j (xs[j]'hjx + by'), N2) ?_ ?_ ?_ ?_
      · exact ⟨by show j + 1 ≤ (1 :: l2).length; omega, by show (xs.set j _).length = (1 :: l2).length; rw [List.length_set]; exact hxl, hin2⟩
      · show (1 :: l2).length - (j + 1) < (1 :: l2).length - j; omega
      · exact (.cons (rfl) (.cons (rfl) (.cons (rfl) (.cons (rfl) (.cons (rfl) (.cons (rfl) (.cons (rfl) (.cons (rfl) (.cons (rfl) .nil)))))))))
      · exact fun _ h => h
    · skip
      refine gc_exit ?_
      refine gk_seq_exit ?_
      refine gk_loop_exit ?_
      refine gk_block_exit ?_
      refine gk_seq ?_
      refine gc_seq ?_
      refine gc_region ?_
      refine gl_cons (gs_val (val_move rfl) rfl rfl rfl ?_)
      refine gl_cons (gs_val (val_move rfl) rfl rfl rfl ?_)
      refine gl_cons (gs_val (val_indexSli (m := 0) ksl37 rfl rfl rfl (by omega) (p18.look (by repeat (first | exact .here | exact .headR | exact .app | refine .tail ?_ | refine .appr ?_))) (by (try simp only [List.length_map, Nat.mul_one, dig_len, inc_len]); omega)) rfl rfl rfl ?_)
      refine gl_cons (gs_val (val_load1 (v := U8 1) kag5 rfl ((p18.look (by repeat (first | exact .here | exact .headR | exact .app | refine .tail ?_ | refine .appr ?_))).elem hp0) rfl) rfl rfl rfl ?_)
      refine gl_cons (gs_val (val_move rfl) rfl rfl rfl ?_)
      refine gl_cons (gs_val (val_add8 rfl rfl) rfl rfl rfl ?_)
      refine gl_cons (gs_val (val_indexSli (m := 0) ksl37 rfl rfl rfl (by omega) (p18.look (by repeat (first | exact .here | exact .headR | exact .app | refine .tail ?_ | refine .appr ?_))) (by (try simp only [List.length_map, Nat.mul_one, dig_len, inc_len]); omega)) rfl rfl rfl ?_)
      refine gl_cons (gs_storeOwn (m := 0) (v := U8 (1 + by')) ksz5 rfl rfl rfl rfl rfl p18 (by rw [List.length_map]; exact hp0) (fun _ => .appr (.appr (.tail .here))) (fun N3 hin3 => ?_))
      refine gl_nil ?_
      refine gk_seq ?_
      refine gc_seq ?_
      refine gc_region ?_
      refine gl_cons (gs_val (val_loadA kag24 rfl (sees_mem (by repeat (first | exact .head _ | refine .tail _ ?_ | refine List.mem_append_right _ ?_))) rfl rfl) rfl rfl rfl ?_)
      refine gl_cons (gs_val (val_move rfl) rfl rfl rfl ?_)
      refine gl_cons (gs_makes (enters kcall82 (.cons rfl (.cons rfl .nil))) (open_spec k ba23 (sealL k (1 :: l2)).length c23 (sealL k (1 :: l2)) rfl (by rw [seal_len _ _ (by omega)]; omega) o23.cap) rfl rfl rfl (row_of_sees (o23.look (by repeat (first | exact .here | exact .headR | exact .app | refine .tail ?_ | refine .appr ?_)))) (fun ⟨ba78, c78, N78⟩ h78 => ?_))
      have o78 : Own 5 1 ba78 (1 :: l2).length c78 ((1 :: l2).map U8) N78 := by have := h78; dsimp only at this; rw [openL_seal _ _ (by omega)] at this; exact this
      rw [openL_seal k (1 :: l2) (by omega), openE_seal k (1 :: l2) (by omega)]
      refine gl_cons (gs_val (val_move rfl) rfl rfl rfl ?_)
      refine gl_cons (gs_val (val_extract rfl rfl) rfl rfl rfl ?_)
      refine gl_cons (gs_val (val_extract rfl rfl) rfl rfl rfl ?_)
      refine gl_cons (gs_val (val_assign rfl) rfl rfl rfl ?_)
      refine gl_cons (gs_val (val_assign rfl) rfl rfl rfl ?_)
      refine gl_nil ?_
      refine gk_seq ?_
      refine gc_seq ?_
      refine gc_region ?_
      refine gl_cons (gs_val (val_move rfl) rfl rfl rfl ?_)
      refine gl_cons (gs_val (val_yes (val_eql rfl rfl) rfl) rfl rfl rfl ?_)
      refine gl_cons (gs_val (val_move rfl) rfl rfl rfl ?_)
      refine gl_cons (gs_val (val_move rfl) rfl rfl rfl ?_)
      refine gl_cons (gs_val (val_bytesStr (l := (1 :: l2)) kun37 kun5 kun9 rfl rfl (o78.look (by repeat (first | exact .here | exact .headR | exact .app | refine .tail ?_ | refine .appr ?_)))) rfl rfl rfl ?_)
      refine gl_cons (gs_val (val_move rfl) rfl rfl rfl ?_)
      refine gl_cons (gs_val (val_yes (val_eqlS rfl rfl) rfl) rfl rfl rfl ?_)
      refine gl_cons (gs_val (val_pick_t rfl rfl) rfl rfl rfl ?_)
      refine gl_cons (gs_val (val_move rfl) rfl rfl rfl ?_)
      refine gl_cons (gs_val (val_move rfl) rfl rfl rfl ?_)
      refine gl_cons (gs_val (val_bytesStr (l := (sealL k (1 :: l2))) kun37 kun5 kun9 rfl rfl (o23.look (by repeat (first | exact .here | exact .headR | exact .app | refine .tail ?_ | refine .appr ?_)))) rfl rfl rfl ?_)
      refine gl_cons (gs_val (val_move rfl) rfl rfl rfl ?_)
      refine gl_cons (gs_val (val_yes (val_eqlS rfl rfl) rfl) rfl rfl rfl ?_)
      refine gl_cons (gs_val (val_pick_t rfl rfl) rfl rfl rfl ?_)
      refine gl_cons (gs_val (val_assign rfl) rfl rfl rfl ?_)
      refine gl_nil ?_
      refine gk_seq ?_
      refine gc_ret ?_
      refine gk_ret rfl (resv_tmp rfl .nil) (List.nil_sublist _) ?_
      exact ⟨rfl, rfl⟩

end Go.Proofs.Ythmepionpjkcgaa
