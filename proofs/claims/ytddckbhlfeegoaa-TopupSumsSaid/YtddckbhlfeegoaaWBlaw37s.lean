/- The walk of functions of the program: what each computes, for every input. -/
import Derived.Test.YtddckbhlfeegoaaWBFacts
import Derived.Test.YtddckbhlfeegoaaWBtopup11
namespace Go.Proofs.Ytddckbhlfeegoaa
open Go Go.Eng
set_option linter.unusedVariables false
set_option linter.unusedSimpArgs false

/-- baize/baizelaw37.TopupSums -/
theorem topupSums_no (ba : Option Addr) (n c : Nat) (l : List Int) (hn : l.length = n) (hcn : n ≤ c) (bb : Option Addr) (k cb : Nat) (al : List Ac) (hk : al.length = k) (hal : ∀ a ∈ al, a.ad.length = a.n ∧ a.n ≤ a.c ∧ a.n ≤ 140737488351232) (m : Nat) (hm : m = min n 10) (he : ¬ newE m (l.take m) = 0) : Pure Try.prog 3 ([.slice ba n c, .slice bb k cb]).toArray (fun w => Row w [] ba (l.map I64) ∧ Row w [] bb (al.flatMap Ac.L) ∧ ∀ a ∈ al, Row w [] a.ra (a.ad.map I64)) (.bool true) := by
  refine spec_walk (n := 141) Try.func3 rfl rfl rfl (fun w0 hpre => ?_)
  refine gc_seq ?_
  refine gc_region ?_
  refine gl_cons (gs_val (val_assign rfl) rfl rfl rfl ?_)
  refine gl_nil ?_
  refine gk_seq ?_
  refine gc_seq ?_
  refine gc_region ?_
  refine gl_cons (gs_val (val_move rfl) rfl rfl rfl ?_)
  refine gl_cons (gs_val (val_move rfl) rfl rfl rfl ?_)
  refine gl_cons (gs_val (val_lenSli ksl22 rfl) rfl rfl rfl ?_)
  refine gl_cons (gs_val (val_min2 rfl rfl) rfl rfl rfl ?_)
  refine gl_cons (gs_val (val_sliceH (h := m) ksl22 rfl rfl (by omega) (by omega)) rfl rfl rfl ?_)
  refine gl_cons (gs_val (val_assign rfl) rfl rfl rfl ?_)
  refine gl_nil ?_
  refine gk_seq ?_
  refine gc_seq ?_
  refine gc_region ?_
  refine gl_cons (gs_val (val_move rfl) rfl rfl rfl ?_)
  refine gl_cons (gs_pure (enters kcall20 (.cons rfl .nil)) (newB_err ba m c (l.take m) (by rw [List.length_take, hn]; omega) (by omega) he) rfl rfl rfl (row_of_sees (((sees_row hpre.1).take m).cast (ds := (l.take m).map I64) (by rw [List.map_take]))) ?_)
  refine gl_cons (gs_val (val_move rfl) rfl rfl rfl ?_)
  refine gl_cons (gs_val (val_extract rfl rfl) rfl rfl rfl ?_)
  refine gl_cons (gs_val (val_extract rfl rfl) rfl rfl rfl ?_)
  refine gl_cons (gs_val (val_assign rfl) rfl rfl rfl ?_)
  refine gl_cons (gs_val (val_assign rfl) rfl rfl rfl ?_)
  refine gl_nil ?_
  refine gk_seq ?_
  refine gc_seq ?_
  refine gc_seq ?_
  refine gc_region ?_
  refine gl_cons (gs_val (val_move rfl) rfl rfl rfl ?_)
  refine gl_cons (gs_val (val_eqlNil kun24 rfl rfl) rfl rfl rfl ?_)
  refine gl_cons (gs_val (val_move rfl) rfl rfl rfl ?_)
  refine gl_cons (gs_skip rfl rfl rfl ?_)
  refine gl_cons (gs_skip rfl rfl rfl ?_)
  refine gl_cons (gs_val (val_pick_t rfl rfl) rfl rfl rfl ?_)
  refine gl_nil ?_
  refine gk_seq ?_
  refine gc_true rfl ?_
  refine gc_seq ?_
  refine gc_region ?_
  refine gl_cons (gs_pure (enters kcall21 .nil) (known_spec) rfl rfl rfl (fun _ _ => trivial) ?_)
  refine gl_cons (gs_val (val_assign rfl) rfl rfl rfl ?_)
  refine gl_nil ?_
  refine gk_seq ?_
  refine gc_ret ?_
  refine gk_seq_ret ?_
  refine gk_ret rfl (resv_tmp rfl .nil) (List.nil_sublist _) ?_
  exact ⟨rfl, rfl⟩

set_option maxRecDepth 8000 in
set_option maxHeartbeats 8000000 in
/-- baize/baizelaw37.TopupSums -/
theorem topupSums_ok (ba : Option Addr) (n c : Nat) (l : List Int) (hn : l.length = n) (hcn : n ≤ c) (bb : Option Addr) (k cb : Nat) (al : List Ac) (hk : al.length = k) (hal : ∀ a ∈ al, a.ad.length = a.n ∧ a.n ≤ a.c ∧ a.n ≤ 140737488351232) (m : Nat) (hm : m = min n 10) (he : newE m (l.take m) = 0) : Pure Try.prog 3 ([.slice ba n c, .slice bb k cb]).toArray (fun w => Row w [] ba (l.map I64) ∧ Row w [] bb (al.flatMap Ac.L) ∧ ∀ a ∈ al, Row w [] a.ra (a.ad.map I64)) (.bool true) := by
  refine spec_walk (n := 141) Try.func3 rfl rfl rfl (fun w0 hpre => ?_)
  refine gc_seq ?_
  refine gc_region ?_
  refine gl_cons (gs_val (val_assign rfl) rfl rfl rfl ?_)
  refine gl_nil ?_
  refine gk_seq ?_
  refine gc_seq ?_
  refine gc_region ?_
  refine gl_cons (gs_val (val_move rfl) rfl rfl rfl ?_)
  refine gl_cons (gs_val (val_move rfl) rfl rfl rfl ?_)
  refine gl_cons (gs_val (val_lenSli ksl22 rfl) rfl rfl rfl ?_)
  refine gl_cons (gs_val (val_min2 rfl rfl) rfl rfl rfl ?_)
  refine gl_cons (gs_val (val_sliceH (h := m) ksl22 rfl rfl (by omega) (by omega)) rfl rfl rfl ?_)
  refine gl_cons (gs_val (val_assign rfl) rfl rfl rfl ?_)
  refine gl_nil ?_
  refine gk_seq ?_
  refine gc_seq ?_
  refine gc_region ?_
  refine gl_cons (gs_val (val_move rfl) rfl rfl rfl ?_)
  refine gl_cons (gs_makes (enters kcall20 (.cons rfl .nil)) (newB_ok ba m c (l.take m) (by rw [List.length_take, hn]; omega) (by omega) he) rfl rfl rfl (row_of_sees (((sees_row hpre.1).take m).cast (ds := (l.take m).map I64) (by rw [List.map_take]))) (fun ⟨b, L1⟩ hb1 => ?_))
  have hb1 : BK 154 157 3 4 b ⟨(l.take m), -1, none⟩ L1 := hb1
  refine gl_cons (gs_val (val_move rfl) rfl rfl rfl ?_)
  refine gl_cons (gs_val (val_extract rfl rfl) rfl rfl rfl ?_)
  refine gl_cons (gs_val (val_extract rfl rfl) rfl rfl rfl ?_)
  refine gl_cons (gs_val (val_assign rfl) rfl rfl rfl ?_)
  refine gl_cons (gs_val (val_assign rfl) rfl rfl rfl ?_)
  refine gl_nil ?_
  refine gk_seq ?_
  refine gc_seq ?_
  refine gc_seq ?_
  refine gc_region ?_
  refine gl_cons (gs_val (val_move rfl) rfl rfl rfl ?_)
  refine gl_cons (gs_val (val_eqlNil kun24 rfl rfl) rfl rfl rfl ?_)
  refine gl_cons (gs_val (val_move rfl) rfl rfl rfl ?_)
  refine gl_cons (gs_val (val_move rfl) rfl rfl rfl ?_)
  refine gl_cons (gs_val (val_neq rfl rfl) rfl rfl rfl ?_)
  refine gl_cons (gs_val (val_pick_f rfl rfl) rfl rfl rfl ?_)
  refine gl_nil ?_
  refine gk_seq ?_
  refine gc_false rfl ?_
  refine gc_skip ?_
  refine gk_seq ?_
  refine gc_seq ?_
  refine gc_region ?_
  refine gl_cons (gs_val (val_move rfl) rfl rfl rfl ?_)
  refine gl_cons (gs_turns (enters kcall22 (.cons rfl .nil)) (heldK_spec b ⟨(l.take m), -1, none⟩ L1 hb1 (bok_new (by rw [List.length_take, hn]; omega) he)) rfl rfl rfl .app (fun _ _ => trivial) (fun _ _ => ?_))
  refine gl_cons (gs_val (val_assign rfl) rfl rfl rfl ?_)
  refine gl_nil ?_
  refine gk_seq ?_
  refine gc_seq ?_
  refine gc_seq ?_
  refine gc_region ?_
  refine gl_cons (gs_val (val_assign rfl) rfl rfl rfl ?_)
  refine gl_nil ?_
  refine gk_seq ?_
  refine gc_block ?_
  refine gc_loop (σ := Nat × BS × List Ent) (I := fun v => v.1 ≤ k ∧ BK 154 157 3 4 b v.2.1 v.2.2 ∧ BOk v.2.1) (μ := fun v => k - v.1) (EI := fun v => [(8, I64 (v.1 : Int)), (7, I64 (heldS v.2.1)), (1, .slice bb k cb), (5, .pointer (some ⟨b, 0, none⟩))]) (LI := fun v => v.2.2 ++ []) (0, ⟨(l.take m), -1, none⟩, L1) ?_ ?_ ?_ ?_
  · exact ⟨Nat.zero_le _, hb1, bok_new (by rw [List.length_take, hn]; omega) he⟩
  · exact (.cons rfl (.cons rfl (.cons rfl (.cons rfl .nil))))
  · exact fun _ h => h
  · intro ⟨i, s, Lb⟩ ⟨hin, hb, ok⟩
    dsimp only
    have hin : i ≤ k := hin
    have hb : BK 154 157 3 4 b s Lb := hb
    have ok : BOk s := ok
    have hh := held_bound ok
    refine gc_seq ?_
    refine gc_seq ?_
    refine gc_region ?_
    refine gl_cons (gs_val (val_move rfl) rfl rfl rfl ?_)
    refine gl_cons (gs_val (val_move rfl) rfl rfl rfl ?_)
    refine gl_cons (gs_val (val_lenSli ksl23 rfl) rfl rfl rfl ?_)
    refine gl_cons (gs_val (val_lss rfl rfl) rfl rfl rfl ?_)
    refine gl_cons (gs_val (val_move rfl) rfl rfl rfl ?_)
    refine gx_split 39 rfl (fun h39 => ?_) (fun h39 => ?_)
    · have hik : i < k := by omega
      have hil : i < al.length := by omega
      obtain ⟨ab, ao, hab⟩ := row_addr hpre.2.1 (by rw [flatK_len ac_len]; omega)
      refine gl_cons (gs_val (val_move rfl) rfl rfl rfl ?_)
      refine gl_cons (gs_val (val_lss rfl rfl) rfl rfl rfl ?_)
      refine gl_cons (gs_val (val_pick_t rfl rfl) rfl rfl rfl ?_)
      refine gl_nil ?_
      refine gk_seq ?_
      refine gc_if rfl (fun h1 => ?_) (fun h1 => ?_)
      · skip
        refine gc_skip ?_
        refine gk_seq ?_
        refine gc_seq ?_
        refine gc_block ?_
        refine gc_seq ?_
        refine gc_region ?_
        refine gl_cons (gs_val (val_move rfl) rfl rfl rfl ?_)
        refine gl_cons (gs_val (val_move rfl) rfl rfl rfl ?_)
        refine gl_cons (gs_val (val_cast (v := .pointer (some ⟨ab, ao + i * 15, none⟩)) (val_indexSli (m := i) ksl23 rfl rfl rfl (by omega) (sees_row hpre.2.1) (by rw [flatK_len ac_len]; omega)) (idx_eq hab)) rfl rfl rfl ?_)
        refine gl_cons (gs_val (val_loadA (ds := al[i].L) kag35 rfl ((sees_row hpre.2.1).rowK ac_len hab hil) rfl rfl) rfl rfl rfl ?_)
        refine gl_cons (gs_alloc kze35 rfl rfl rfl (fun ax => ?_))
        refine gl_cons (gs_store ksz35 rfl rfl rfl rfl rfl rfl (by first | exact .head | exact .tail .head | exact .tail (.tail .head) | exact .tail (.tail (.tail .head)) | exact .tail (.tail (.tail (.tail .head))) | exact .tail (.tail (.tail (.tail (.tail .head))))) (by simp) (by first | ((with_reducible refine splice_all _ _ ?_); simp; done) | (simp only [splice, stL, digL, List.take_succ_cons, List.take_zero, List.drop_succ_cons, List.drop_zero, List.length_cons, List.length_nil, Nat.reduceAdd, Nat.reduceMul, Nat.zero_add, Nat.zero_mul, List.cons_append, List.nil_append]; exact rfl)) ?_)
        refine gl_nil ?_
        refine gk_seq ?_
        refine gc_seq ?_
        refine gc_region ?_
        refine gl_cons (gs_val (val_move rfl) rfl rfl rfl ?_)
        refine gl_cons (gs_turns (enters kcall23 (.cons rfl .nil)) (openK_spec b s Lb hb ok) rfl rfl rfl (.tail .app) (fun _ _ => trivial) (fun ⟨oa, oc, oN, o1, o2, o3⟩ ho => ?_))
        have ho : Has oN oa ((adL s).map I64) := ho
        refine gx_perm perm_abr ?_
        refine gl_cons (gs_val (val_move rfl) rfl rfl rfl ?_)
        refine gl_cons (gs_val (val_extract rfl rfl) rfl rfl rfl ?_)
        refine gl_cons (gs_val (val_extract rfl rfl) rfl rfl rfl ?_)
        refine gl_cons (gs_val (val_cast (v := .bool (decide (s.op.isSome = true))) (val_extract rfl rfl) (congrArg Value.bool Bool.decide_eq_true.symm)) rfl rfl rfl ?_)
        refine gl_cons (gs_alloc kze33 rfl rfl rfl (fun rx => ?_))
        refine gl_cons (gs_store ksz33 rfl rfl rfl rfl rfl rfl (by first | exact .head | exact .tail .head | exact .tail (.tail .head) | exact .tail (.tail (.tail .head)) | exact .tail (.tail (.tail (.tail .head))) | exact .tail (.tail (.tail (.tail (.tail .head))))) (by simp) (by first | ((with_reducible refine splice_all _ _ ?_); simp; done) | (simp only [splice, stL, digL, List.take_succ_cons, List.take_zero, List.drop_succ_cons, List.drop_zero, List.length_cons, List.length_nil, Nat.reduceAdd, Nat.reduceMul, Nat.zero_add, Nat.zero_mul, List.cons_append, List.nil_append]; exact rfl)) ?_)
        refine gl_cons (gs_val (val_assign rfl) rfl rfl rfl ?_)
        refine gl_cons (gs_val (val_assign rfl) rfl rfl rfl ?_)
        refine gl_nil ?_
        refine gk_seq ?_
        refine gc_seq ?_
        refine gc_region ?_
        refine gl_cons (gs_val (val_fieldAddr kfo35_3 rfl) rfl rfl rfl ?_)
        refine gl_cons (gs_val (val_load1 kag3 rfl (sees_mem (by repeat (first | exact .head _ | refine .tail _ ?_ | refine List.mem_append_right _ ?_))) rfl) rfl rfl rfl ?_)
        refine gl_cons (gs_val (val_assign rfl) rfl rfl rfl ?_)
        refine gl_nil ?_
        refine gk_seq ?_
        refine gc_seq ?_
        refine gc_seq ?_
        refine gc_region ?_
        refine gl_cons (gs_val (val_move rfl) rfl rfl rfl ?_)
        refine gl_cons (gs_val (val_move rfl) rfl rfl rfl ?_)
        refine gx_split 58 rfl (fun h58 => ?_) (fun h58 => ?_)
        · skip
          refine gl_cons (gs_val (val_move rfl) rfl rfl rfl ?_)
          refine gl_cons (gs_val (val_eql rfl rfl) rfl rfl rfl ?_)
          refine gl_cons (gs_val (val_pick_t rfl rfl) rfl rfl rfl ?_)
          refine gl_cons (gs_val (val_move rfl) rfl rfl rfl ?_)
          refine gx_split 62 rfl (fun h62 => ?_) (fun h62 => ?_)
          · skip
            refine gl_cons (gs_val (val_fieldAddr kfo35_2 rfl) rfl rfl rfl ?_)
            refine gl_cons (gs_val (val_load1 kag3 rfl (sees_mem (by repeat (first | exact .head _ | refine .tail _ ?_ | refine List.mem_append_right _ ?_))) rfl) rfl rfl rfl ?_)
            refine gl_cons (gs_val (val_geq rfl rfl) rfl rfl rfl ?_)
            refine gl_cons (gs_val (val_pick_t rfl rfl) rfl rfl rfl ?_)
            refine gl_cons (gs_val (val_move rfl) rfl rfl rfl ?_)
            refine gx_split 67 rfl (fun h67 => ?_) (fun h67 => ?_)
            · skip
              refine gl_cons (gs_val (val_fieldAddr kfo35_2 rfl) rfl rfl rfl ?_)
              refine gl_cons (gs_val (val_load1 kag3 rfl (sees_mem (by repeat (first | exact .head _ | refine .tail _ ?_ | refine List.mem_append_right _ ?_))) rfl) rfl rfl rfl ?_)
              refine gl_cons (gs_val (val_fieldAddr kfo33_2 rfl) rfl rfl rfl ?_)
              refine gl_cons (gs_val (val_load1 kag22 rfl (sees_mem (by repeat (first | exact .head _ | refine .tail _ ?_ | refine List.mem_append_right _ ?_))) rfl) rfl rfl rfl ?_)
              refine gl_cons (gs_val (val_lenSli ksl22 rfl) rfl rfl rfl ?_)
              refine gl_cons (gs_val (val_lss rfl rfl) rfl rfl rfl ?_)
              refine gl_cons (gs_val (val_pick_t rfl rfl) rfl rfl rfl ?_)
              refine gl_nil ?_
              refine gk_seq ?_
              refine gc_if rfl (fun h74 => ?_) (fun h74 => ?_)
              · obtain ⟨j, hje⟩ : ∃ j : Nat, al[i].s = (j : Int) := ⟨al[i].s.toNat, by omega⟩
                refine gc_region ?_
                refine gl_cons (gs_val (val_fieldAddr kfo33_2 rfl) rfl rfl rfl ?_)
                refine gl_cons (gs_val (val_load1 kag22 rfl (sees_mem (by repeat (first | exact .head _ | refine .tail _ ?_ | refine List.mem_append_right _ ?_))) rfl) rfl rfl rfl ?_)
                refine gl_cons (gs_val (val_fieldAddr kfo35_2 rfl) rfl rfl rfl ?_)
                refine gl_cons (gs_val (val_load1 kag3 rfl (sees_mem (by repeat (first | exact .head _ | refine .tail _ ?_ | refine List.mem_append_right _ ?_))) rfl) rfl rfl rfl ?_)
                refine gl_cons (gs_val (val_indexSli (m := j) ksl22 rfl rfl hje (by omega) (ho.sees (fun w hi => hi.sub (.cons _ ((List.sublist_append_left oN _).trans (List.sublist_append_right Lb _))))) (by rw [List.length_map]; omega)) rfl rfl rfl ?_)
                refine gl_cons (gs_val (val_cast (v := I64 ((adL s)[j]'(by omega))) (val_load1 kag3 rfl ((ho.sees (fun w hi => hi.sub (.cons _ ((List.sublist_append_left oN _).trans (List.sublist_append_right Lb _))))).elem (m := j) (by omega)) rfl) rfl) rfl rfl rfl ?_)
                refine gl_cons (gs_val (val_assign rfl) rfl rfl rfl ?_)
                refine gl_nil ?_
                refine gk_seq ?_
                refine gc_seq ?_
                refine gc_seq ?_
                refine gc_region ?_
                refine gl_cons (gs_val (val_fieldAddr kfo35_0 rfl) rfl rfl rfl ?_)
                refine gl_cons (gs_val (val_load1 kag3 rfl (sees_mem (by repeat (first | exact .head _ | refine .tail _ ?_ | refine List.mem_append_right _ ?_))) rfl) rfl rfl rfl ?_)
                refine gl_nil ?_
                refine gk_seq ?_
                refine gc_block ?_
                refine gc_seq ?_
                refine gc_region ?_
                refine gl_cons (gs_val (val_eql rfl rfl) rfl rfl rfl ?_)
                refine gl_cons (gs_val (val_assign rfl) rfl rfl rfl ?_)
                refine gl_nil ?_
                refine gk_seq ?_
                refine gc_if rfl (fun hk0 => ?_) (fun hk0 => ?_)
                · skip
                  refine ga_start (m := 8) (ls := [false, false, false, false, false, false, false, false]) kmixed rfl rfl ?_
                  apply share3 (α := Option Addr) (β := Nat) (γ := List Ent) (m' := 1) (ls' := [true, true, true, true, true, true, true, false])
                  · intro hD0
                    apply share0  (m' := 2) (ls' := [true, true, true, true, true, true, false, false])
                    · intro hD1
                      apply share0  (m' := 3) (ls' := [true, true, true, true, true, false, false, false])
                      · intro hD2
                        refine ga_take (i := 0) (ls' := [true, false, false, false, false, false, false, false]) rfl (by kernel_rfl) rfl (fun _ _ _ => val_move rfl) rfl rfl rfl ?_
                        refine ga_take (i := 1) (ls' := [true, true, false, false, false, false, false, false]) rfl (by kernel_rfl) rfl (fun _ _ _ => val_fieldAddr kfo35_1 rfl) rfl rfl rfl ?_
                        refine ga_take (i := 3) (ls' := [true, true, false, true, false, false, false, false]) rfl (by kernel_rfl) rfl (fun _ _ _ => val_fieldAddr kfo35_4 rfl) rfl rfl rfl ?_
                        refine ga_branch (rs := [2, 4]) (by kernel_rfl) rfl (.cons (ls' := [true, true, true, true, false, false, false, false]) rfl rfl ?_ (.cons (ls' := [true, true, false, true, true, false, false, false]) rfl rfl ?_ .nil))
                        · skip
                          refine gs_val (val_load1 kag3 rfl (sees_mem (by repeat (first | exact .head _ | refine .tail _ ?_ | refine List.mem_append_right _ ?_))) rfl) rfl rfl rfl ?_
                          refine ga_branch (rs := [4]) (by kernel_rfl) rfl (.cons (ls' := [true, true, true, true, true, false, false, false]) rfl rfl ?_ .nil)
                          refine gs_val (val_loadA (ds := raL al[i].t al[i].num (.slice al[i].ra al[i].n al[i].c) al[i].un) kag33 rfl (sees_mem (by repeat (first | exact .head _ | refine .tail _ ?_ | refine List.mem_append_right _ ?_))) rfl rfl) rfl rfl rfl ?_
                          refine gx_env (F := [(1, _), (5, _), (7, _), (8, _), (9, _), (10, _), (12, _), (13, _), (35, _), (36, _), (37, _), (38, _), (39, _), (40, _), (41, _), (42, _), (45, _), (46, _), (47, _), (48, _), (49, _), (50, _), (51, _), (52, _), (53, _), (54, _), (55, _), (56, _), (57, _), (58, _), (59, _), (60, _), (61, _), (62, _), (63, _), (64, _), (65, _), (66, _), (67, _), (68, _), (69, _), (70, _), (71, _), (72, _), (73, _), (74, _), (75, _), (76, _), (77, _), (78, _), (79, _), (80, _), (81, _), (82, _), (83, _), (84, _), (85, _), (86, _), (87, _), (88, _), (89, _)]) (.cons rfl (.cons rfl (.cons rfl (.cons rfl (.cons rfl (.cons rfl (.cons rfl (.cons rfl (.cons rfl (.cons rfl (.cons rfl (.cons rfl (.cons rfl (.cons rfl (.cons rfl (.cons rfl (.cons rfl (.cons rfl (.cons rfl (.cons rfl (.cons rfl (.cons rfl (.cons rfl (.cons rfl (.cons rfl (.cons rfl (.cons rfl (.cons rfl (.cons rfl (.cons rfl (.cons rfl (.cons rfl (.cons rfl (.cons rfl (.cons rfl (.cons rfl (.cons rfl (.cons rfl (.cons rfl (.cons rfl (.cons rfl (.cons rfl (.cons rfl (.cons rfl (.cons rfl (.cons rfl (.cons rfl (.cons rfl (.cons rfl (.cons rfl (.cons rfl (.cons rfl (.cons rfl (.cons rfl (.cons rfl (.cons rfl (.cons rfl (.cons rfl (.cons rfl (.cons rfl (.cons rfl .nil))))))))))))))))))))))))))))))))))))))))))))))))))))))))))))) (gx_perm (by first | exact .refl _ | (repeat (first | exact .refl _ | refine perm_take (by first | exact .head | exact .tail .head | exact .tail (.tail .head) | exact .tail (.tail (.tail .head)) | exact .tail (.tail (.tail (.tail .head))) | exact .tail (.tail (.tail (.tail (.tail .head))))) ?_ | refine perm_takeL (by repeat (first | exact .app | exact .here | apply TakeL.tail | apply TakeL.appr)) ?_ | refine perm_takeX (by repeat (first | exact .cons .head .nil | apply TakeL.tail | apply TakeL.appr)) ?_))) (hD2  True.intro))
                        · skip
                          refine gs_val (val_loadA (ds := raL al[i].t al[i].num (.slice al[i].ra al[i].n al[i].c) al[i].un) kag33 rfl (sees_mem (by repeat (first | exact .head _ | refine .tail _ ?_ | refine List.mem_append_right _ ?_))) rfl rfl) rfl rfl rfl ?_
                          refine ga_branch (rs := [2, 5]) (by kernel_rfl) rfl (.cons (ls' := [true, true, true, true, true, false, false, false]) rfl rfl ?_ (.cons (ls' := [true, true, false, true, true, true, false, false]) rfl rfl ?_ .nil))
                          · skip
                            refine gs_val (val_load1 kag3 rfl (sees_mem (by repeat (first | exact .head _ | refine .tail _ ?_ | refine List.mem_append_right _ ?_))) rfl) rfl rfl rfl ?_
                            refine gx_env (F := [(1, _), (5, _), (7, _), (8, _), (9, _), (10, _), (12, _), (13, _), (35, _), (36, _), (37, _), (38, _), (39, _), (40, _), (41, _), (42, _), (45, _), (46, _), (47, _), (48, _), (49, _), (50, _), (51, _), (52, _), (53, _), (54, _), (55, _), (56, _), (57, _), (58, _), (59, _), (60, _), (61, _), (62, _), (63, _), (64, _), (65, _), (66, _), (67, _), (68, _), (69, _), (70, _), (71, _), (72, _), (73, _), (74, _), (75, _), (76, _), (77, _), (78, _), (79, _), (80, _), (81, _), (82, _), (83, _), (84, _), (85, _), (86, _), (87, _), (88, _), (89, _)]) (.cons rfl (.cons rfl (.cons rfl (.cons rfl (.cons rfl (.cons rfl (.cons rfl (.cons rfl (.cons rfl (.cons rfl (.cons rfl (.cons rfl (.cons rfl (.cons rfl (.cons rfl (.cons rfl (.cons rfl (.cons rfl (.cons rfl (.cons rfl (.cons rfl (.cons rfl (.cons rfl (.cons rfl (.cons rfl (.cons rfl (.cons rfl (.cons rfl (.cons rfl (.cons rfl (.cons rfl (.cons rfl (.cons rfl (.cons rfl (.cons rfl (.cons rfl (.cons rfl (.cons rfl (.cons rfl (.cons rfl (.cons rfl (.cons rfl (.cons rfl (.cons rfl (.cons rfl (.cons rfl (.cons rfl (.cons rfl (.cons rfl (.cons rfl (.cons rfl (.cons rfl (.cons rfl (.cons rfl (.cons rfl (.cons rfl (.cons rfl (.cons rfl (.cons rfl (.cons rfl (.cons rfl .nil))))))))))))))))))))))))))))))))))))))))))))))))))))))))))))) (gx_perm (by first | exact .refl _ | (repeat (first | exact .refl _ | refine perm_take (by first | exact .head | exact .tail .head | exact .tail (.tail .head) | exact .tail (.tail (.tail .head)) | exact .tail (.tail (.tail (.tail .head))) | exact .tail (.tail (.tail (.tail (.tail .head))))) ?_ | refine perm_takeL (by repeat (first | exact .app | exact .here | apply TakeL.tail | apply TakeL.appr)) ?_ | refine perm_takeX (by repeat (first | exact .cons .head .nil | apply TakeL.tail | apply TakeL.appr)) ?_))) (hD2  True.intro))
                          · skip
                            refine gs_pure (enters kcall26 (.cons rfl .nil)) (of_spec al[i].t al[i].num al[i].un al[i].ra al[i].n al[i].c (min al[i].n 10) rfl (hal _ (List.getElem_mem hil)).2.1) rfl rfl rfl (fun _ _ => trivial) ?_
                            refine ga_branch (rs := [2, 6]) (by kernel_rfl) rfl (.cons (ls' := [true, true, true, true, true, true, false, false]) rfl rfl ?_ (.cons (ls' := [true, true, false, true, true, true, true, false]) rfl rfl ?_ .nil))
                            · skip
                              refine gs_val (val_load1 kag3 rfl (sees_mem (by repeat (first | exact .head _ | refine .tail _ ?_ | refine List.mem_append_right _ ?_))) rfl) rfl rfl rfl ?_
                              refine gx_env (F := [(1, _), (5, _), (7, _), (8, _), (9, _), (10, _), (12, _), (13, _), (35, _), (36, _), (37, _), (38, _), (39, _), (40, _), (41, _), (42, _), (45, _), (46, _), (47, _), (48, _), (49, _), (50, _), (51, _), (52, _), (53, _), (54, _), (55, _), (56, _), (57, _), (58, _), (59, _), (60, _), (61, _), (62, _), (63, _), (64, _), (65, _), (66, _), (67, _), (68, _), (69, _), (70, _), (71, _), (72, _), (73, _), (74, _), (75, _), (76, _), (77, _), (78, _), (79, _), (80, _), (81, _), (82, _), (83, _), (84, _), (85, _), (86, _), (87, _), (88, _), (89, _), (90, _)]) (.cons rfl (.cons rfl (.cons rfl (.cons rfl (.cons rfl (.cons rfl (.cons rfl (.cons rfl (.cons rfl (.cons rfl (.cons rfl (.cons rfl (.cons rfl (.cons rfl (.cons rfl (.cons rfl (.cons rfl (.cons rfl (.cons rfl (.cons rfl (.cons rfl (.cons rfl (.cons rfl (.cons rfl (.cons rfl (.cons rfl (.cons rfl (.cons rfl (.cons rfl (.cons rfl (.cons rfl (.cons rfl (.cons rfl (.cons rfl (.cons rfl (.cons rfl (.cons rfl (.cons rfl (.cons rfl (.cons rfl (.cons rfl (.cons rfl (.cons rfl (.cons rfl (.cons rfl (.cons rfl (.cons rfl (.cons rfl (.cons rfl (.cons rfl (.cons rfl (.cons rfl (.cons rfl (.cons rfl (.cons rfl (.cons rfl (.cons rfl (.cons rfl (.cons rfl (.cons rfl (.cons rfl (.cons rfl .nil)))))))))))))))))))))))))))))))))))))))))))))))))))))))))))))) (gx_perm (by first | exact .refl _ | (repeat (first | exact .refl _ | refine perm_take (by first | exact .head | exact .tail .head | exact .tail (.tail .head) | exact .tail (.tail (.tail .head)) | exact .tail (.tail (.tail (.tail .head))) | exact .tail (.tail (.tail (.tail (.tail .head))))) ?_ | refine perm_takeL (by repeat (first | exact .app | exact .here | apply TakeL.tail | apply TakeL.appr)) ?_ | refine perm_takeX (by repeat (first | exact .cons .head .nil | apply TakeL.tail | apply TakeL.appr)) ?_))) (hD1  True.intro))
                            · skip
                              refine gs_makes (enters kcall25 (.cons rfl .nil)) (to_spec al[i].t al[i].num al[i].un al[i].ra (min al[i].n 10) al[i].c (al[i].ad.take (min al[i].n 10)) (by rw [List.length_take, (hal _ (List.getElem_mem hil)).1]; omega) (by omega)) rfl rfl rfl (row_of_sees (((sees_row (hpre.2.2 _ (List.getElem_mem hil))).take (min al[i].n 10)).cast (ds := (al[i].ad.take (min al[i].n 10)).map I64) (by rw [List.map_take]))) (fun ⟨ta, tc, tN⟩ hto => ?_)
                              have hto : Own 3 1 ta (min al[i].n 10) tc ((al[i].ad.take (min al[i].n 10)).map I64) tN := hto
                              have hal1 := (hal _ (List.getElem_mem hil)).1
                              refine ga_branch (rs := [2]) (by kernel_rfl) rfl (.cons (ls' := [true, true, true, true, true, true, true, false]) rfl rfl ?_ .nil)
                              refine gs_val (val_load1 kag3 rfl (sees_mem (by repeat (first | exact .head _ | refine .tail _ ?_ | refine List.mem_append_right _ ?_))) rfl) rfl rfl rfl ?_
                              refine gx_env (F := [(1, _), (5, _), (7, _), (8, _), (9, _), (10, _), (12, _), (13, _), (35, _), (36, _), (37, _), (38, _), (39, _), (40, _), (41, _), (42, _), (45, _), (46, _), (47, _), (48, _), (49, _), (50, _), (51, _), (52, _), (53, _), (54, _), (55, _), (56, _), (57, _), (58, _), (59, _), (60, _), (61, _), (62, _), (63, _), (64, _), (65, _), (66, _), (67, _), (68, _), (69, _), (70, _), (71, _), (72, _), (73, _), (74, _), (75, _), (76, _), (77, _), (78, _), (79, _), (80, _), (81, _), (82, _), (83, _), (84, _), (85, _), (86, _), (87, _), (88, _), (89, _), (90, _), (91, _)]) (.cons rfl (.cons rfl (.cons rfl (.cons rfl (.cons rfl (.cons rfl (.cons rfl (.cons rfl (.cons rfl (.cons rfl (.cons rfl (.cons rfl (.cons rfl (.cons rfl (.cons rfl (.cons rfl (.cons rfl (.cons rfl (.cons rfl (.cons rfl (.cons rfl (.cons rfl (.cons rfl (.cons rfl (.cons rfl (.cons rfl (.cons rfl (.cons rfl (.cons rfl (.cons rfl (.cons rfl (.cons rfl (.cons rfl (.cons rfl (.cons rfl (.cons rfl (.cons rfl (.cons rfl (.cons rfl (.cons rfl (.cons rfl (.cons rfl (.cons rfl (.cons rfl (.cons rfl (.cons rfl (.cons rfl (.cons rfl (.cons rfl (.cons rfl (.cons rfl (.cons rfl (.cons rfl (.cons rfl (.cons rfl (.cons rfl (.cons rfl (.cons rfl (.cons rfl (.cons rfl (.cons rfl (.cons rfl (.cons rfl .nil))))))))))))))))))))))))))))))))))))))))))))))))))))))))))))))) (gx_perm (by first | exact .refl _ | (repeat (first | exact .refl _ | refine perm_take (by first | exact .head | exact .tail .head | exact .tail (.tail .head) | exact .tail (.tail (.tail .head)) | exact .tail (.tail (.tail (.tail .head))) | exact .tail (.tail (.tail (.tail (.tail .head))))) ?_ | refine perm_takeL (by repeat (first | exact .app | exact .here | apply TakeL.tail | apply TakeL.appr)) ?_ | refine perm_takeX (by repeat (first | exact .cons .head .nil | apply TakeL.tail | apply TakeL.appr)) ?_))) (hD0 ta tc tN (And.intro hto True.intro)))
                      · rintro  _
                        refine ga_branch (rs := [5]) (by kernel_rfl) rfl (.cons (ls' := [true, true, true, true, true, true, false, false]) rfl rfl ?_ .nil)
                        refine gs_pure (enters kcall26 (.cons rfl .nil)) (of_spec al[i].t al[i].num al[i].un al[i].ra al[i].n al[i].c (min al[i].n 10) rfl (hal _ (List.getElem_mem hil)).2.1) rfl rfl rfl (fun _ _ => trivial) ?_
                        refine gx_env (F := [(1, _), (5, _), (7, _), (8, _), (9, _), (10, _), (12, _), (13, _), (35, _), (36, _), (37, _), (38, _), (39, _), (40, _), (41, _), (42, _), (45, _), (46, _), (47, _), (48, _), (49, _), (50, _), (51, _), (52, _), (53, _), (54, _), (55, _), (56, _), (57, _), (58, _), (59, _), (60, _), (61, _), (62, _), (63, _), (64, _), (65, _), (66, _), (67, _), (68, _), (69, _), (70, _), (71, _), (72, _), (73, _), (74, _), (75, _), (76, _), (77, _), (78, _), (79, _), (80, _), (81, _), (82, _), (83, _), (84, _), (85, _), (86, _), (87, _), (88, _), (89, _), (90, _)]) (.cons rfl (.cons rfl (.cons rfl (.cons rfl (.cons rfl (.cons rfl (.cons rfl (.cons rfl (.cons rfl (.cons rfl (.cons rfl (.cons rfl (.cons rfl (.cons rfl (.cons rfl (.cons rfl (.cons rfl (.cons rfl (.cons rfl (.cons rfl (.cons rfl (.cons rfl (.cons rfl (.cons rfl (.cons rfl (.cons rfl (.cons rfl (.cons rfl (.cons rfl (.cons rfl (.cons rfl (.cons rfl (.cons rfl (.cons rfl (.cons rfl (.cons rfl (.cons rfl (.cons rfl (.cons rfl (.cons rfl (.cons rfl (.cons rfl (.cons rfl (.cons rfl (.cons rfl (.cons rfl (.cons rfl (.cons rfl (.cons rfl (.cons rfl (.cons rfl (.cons rfl (.cons rfl (.cons rfl (.cons rfl (.cons rfl (.cons rfl (.cons rfl (.cons rfl (.cons rfl (.cons rfl (.cons rfl .nil)))))))))))))))))))))))))))))))))))))))))))))))))))))))))))))) (gx_perm (by first | exact .refl _ | (repeat (first | exact .refl _ | refine perm_take (by first | exact .head | exact .tail .head | exact .tail (.tail .head) | exact .tail (.tail (.tail .head)) | exact .tail (.tail (.tail (.tail .head))) | exact .tail (.tail (.tail (.tail (.tail .head))))) ?_ | refine perm_takeL (by repeat (first | exact .app | exact .here | apply TakeL.tail | apply TakeL.appr)) ?_ | refine perm_takeX (by repeat (first | exact .cons .head .nil | apply TakeL.tail | apply TakeL.appr)) ?_))) (hD1  True.intro))
                    · rintro  _
                      refine ga_branch (rs := [6]) (by kernel_rfl) rfl (.cons (ls' := [true, true, true, true, true, true, true, false]) rfl rfl ?_ .nil)
                      refine gs_makes (enters kcall25 (.cons rfl .nil)) (to_spec al[i].t al[i].num al[i].un al[i].ra (min al[i].n 10) al[i].c (al[i].ad.take (min al[i].n 10)) (by rw [List.length_take, (hal _ (List.getElem_mem hil)).1]; omega) (by omega)) rfl rfl rfl (row_of_sees (((sees_row (hpre.2.2 _ (List.getElem_mem hil))).take (min al[i].n 10)).cast (ds := (al[i].ad.take (min al[i].n 10)).map I64) (by rw [List.map_take]))) (fun ⟨ta, tc, tN⟩ hto => ?_)
                      have hto : Own 3 1 ta (min al[i].n 10) tc ((al[i].ad.take (min al[i].n 10)).map I64) tN := hto
                      have hal1 := (hal _ (List.getElem_mem hil)).1
                      refine gx_env (F := [(1, _), (5, _), (7, _), (8, _), (9, _), (10, _), (12, _), (13, _), (35, _), (36, _), (37, _), (38, _), (39, _), (40, _), (41, _), (42, _), (45, _), (46, _), (47, _), (48, _), (49, _), (50, _), (51, _), (52, _), (53, _), (54, _), (55, _), (56, _), (57, _), (58, _), (59, _), (60, _), (61, _), (62, _), (63, _), (64, _), (65, _), (66, _), (67, _), (68, _), (69, _), (70, _), (71, _), (72, _), (73, _), (74, _), (75, _), (76, _), (77, _), (78, _), (79, _), (80, _), (81, _), (82, _), (83, _), (84, _), (85, _), (86, _), (87, _), (88, _), (89, _), (90, _), (91, _)]) (.cons rfl (.cons rfl (.cons rfl (.cons rfl (.cons rfl (.cons rfl (.cons rfl (.cons rfl (.cons rfl (.cons rfl (.cons rfl (.cons rfl (.cons rfl (.cons rfl (.cons rfl (.cons rfl (.cons rfl (.cons rfl (.cons rfl (.cons rfl (.cons rfl (.cons rfl (.cons rfl (.cons rfl (.cons rfl (.cons rfl (.cons rfl (.cons rfl (.cons rfl (.cons rfl (.cons rfl (.cons rfl (.cons rfl (.cons rfl (.cons rfl (.cons rfl (.cons rfl (.cons rfl (.cons rfl (.cons rfl (.cons rfl (.cons rfl (.cons rfl (.cons rfl (.cons rfl (.cons rfl (.cons rfl (.cons rfl (.cons rfl (.cons rfl (.cons rfl (.cons rfl (.cons rfl (.cons rfl (.cons rfl (.cons rfl (.cons rfl (.cons rfl (.cons rfl (.cons rfl (.cons rfl (.cons rfl (.cons rfl .nil))))))))))))))))))))))))))))))))))))))))))))))))))))))))))))))) (gx_perm (by first | exact .refl _ | (repeat (first | exact .refl _ | refine perm_take (by first | exact .head | exact .tail .head | exact .tail (.tail .head) | exact .tail (.tail (.tail .head)) | exact .tail (.tail (.tail (.tail .head))) | exact .tail (.tail (.tail (.tail (.tail .head))))) ?_ | refine perm_takeL (by repeat (first | exact .app | exact .here | apply TakeL.tail | apply TakeL.appr)) ?_ | refine perm_takeX (by repeat (first | exact .cons .head .nil | apply TakeL.tail | apply TakeL.appr)) ?_))) (hD0 ta tc tN (And.intro hto True.intro)))
                  · rintro ta tc tN ⟨hto, _⟩
                    refine ga_branch (rs := [7]) (by kernel_rfl) rfl (.cons (ls' := [true, true, true, true, true, true, true, true]) rfl rfl ?_ .nil)
                    refine gs_turns (enters kcall24 (.cons rfl (.cons rfl (.cons rfl .nil)))) ((by have h9 := askK_spec b s Lb hb ok al[i].h al[i].t al[i].num al[i].un ta tc (al[i].ad.take (min al[i].n 10)) (by rw [List.length_take]; omega); rw [show (al[i].ad.take (min al[i].n 10)).length = min al[i].n 10 by rw [List.length_take, (hal _ (List.getElem_mem hil)).1]; omega] at h9; exact h9)) rfl rfl rfl (.appr (.tail .app)) (row_of_ownL hto (.appr (.tail .app)) .app) (fun L2 hb2 => ?_)
                    have hb2 : BK 154 157 3 4 b (askS s al[i].h al[i].t al[i].num al[i].un (al[i].ad.take (min al[i].n 10))) L2 := hb2
                    have ok2 := askS_ok (now := al[i].h) (rt := al[i].t) (rn := al[i].num) (ru := al[i].un) (rad := (al[i].ad.take (min al[i].n 10))) ok
                    have e2 : heldS (askS s al[i].h al[i].t al[i].num al[i].un (al[i].ad.take (min al[i].n 10))) = heldS s := held_ask
                    obtain ⟨s2, hs2⟩ : ∃ z, askS s al[i].h al[i].t al[i].num al[i].un (al[i].ad.take (min al[i].n 10)) = z := ⟨_, rfl⟩
                    rw [hs2] at hb2 ok2 e2
                    have hh2 := held_bound ok2
                    refine ga_done (by kernel_rfl) ?_
                    refine gk_block ?_
                    refine gk_seq ?_
                    refine gc_seq ?_
                    refine gc_region ?_
                    refine gl_cons (gs_val (val_move rfl) rfl rfl rfl ?_)
                    refine gl_cons (gs_turns (enters kcall22 (.cons rfl .nil)) (heldK_spec b s2 L2 hb2 ok2) rfl rfl rfl (by first | exact .app | exact (.tail .app)) (fun _ _ => trivial) (fun _ _ => ?_))
                    refine gl_cons (gs_val (val_move rfl) rfl rfl rfl ?_)
                    refine gl_cons (gs_val (val_no (val_neq rfl rfl) (by omega)) rfl rfl rfl ?_)
                    refine gl_cons (gs_val (val_move rfl) rfl rfl rfl ?_)
                    refine gl_cons (gs_val (val_move rfl) rfl rfl rfl ?_)
                    refine gl_cons (gs_turns (enters kcall29 (.cons rfl .nil)) (potK_spec b s2 L2 hb2 ok2) rfl rfl rfl .app (fun _ _ => trivial) (fun _ _ => ?_))
                    refine gl_cons (gs_val (val_move rfl) rfl rfl rfl ?_)
                    refine gl_cons (gs_val (val_no (val_gtr rfl rfl) (by omega)) rfl rfl rfl ?_)
                    refine gl_cons (gs_val (val_pick_f rfl rfl) rfl rfl rfl ?_)
                    refine gl_cons (gs_val (val_move rfl) rfl rfl rfl ?_)
                    refine gl_cons (gs_val (val_move rfl) rfl rfl rfl ?_)
                    refine gl_cons (gs_turns (enters kcall29 (.cons rfl .nil)) (potK_spec b s2 L2 hb2 ok2) rfl rfl rfl .app (fun _ _ => trivial) (fun _ _ => ?_))
                    refine gl_cons (gs_val (val_no (val_lss rfl rfl) (by omega)) rfl rfl rfl ?_)
                    refine gl_cons (gs_val (val_pick_f rfl rfl) rfl rfl rfl ?_)
                    refine gl_nil ?_
                    refine gk_seq ?_
                    refine gc_false rfl ?_
                    refine gc_skip ?_
                    refine gk_block ?_
                    refine gk_seq ?_
                    refine gc_region ?_
                    refine gl_cons (gs_val (val_move rfl) rfl rfl rfl ?_)
                    refine gl_cons (gs_val (val_addI rfl rfl (by omega)) rfl rfl rfl ?_)
                    refine gl_cons (gs_val (val_assign rfl) rfl rfl rfl ?_)
                    refine gl_nil ?_
                    refine gk_again (i + 1, s2, L2) ?_ ?_ ?_ ?_
                    · exact ⟨by show i + 1 ≤ k; omega, hb2, ok2⟩
                    · show k - (i + 1) < k - i; omega
                    · refine .cons rfl (.cons (congrArg (fun z => some (I64 z)) (by show _ = heldS s2; omega)) ?_); repeat (first | exact .nil | refine .cons rfl ?_)
                    · first | exact fun _ h => h.sub (List.Sublist.append_left (List.nil_sublist _) L2) | exact fun _ h => h.sub (.cons _ (List.Sublist.append_left (List.nil_sublist _) L2))
                · skip
                  refine gc_seq ?_
                  refine gc_region ?_
                  refine gl_cons (gs_val (val_eql rfl rfl) rfl rfl rfl ?_)
                  refine gl_cons (gs_val (val_assign rfl) rfl rfl rfl ?_)
                  refine gl_nil ?_
                  refine gk_seq ?_
                  refine gc_if rfl (fun hk1 => ?_) (fun hk1 => ?_)
                  · skip
                    refine gc_seq ?_
                    refine gc_region ?_
                    refine gl_cons (gs_val (val_move rfl) rfl rfl rfl ?_)
                    refine gl_cons (gs_val (val_fieldAddr kfo35_1 rfl) rfl rfl rfl ?_)
                    refine gl_cons (gs_val (val_load1 kag3 rfl (sees_mem (by repeat (first | exact .head _ | refine .tail _ ?_ | refine List.mem_append_right _ ?_))) rfl) rfl rfl rfl ?_)
                    refine gl_cons (gs_val (val_fieldAddr kfo35_2 rfl) rfl rfl rfl ?_)
                    refine gl_cons (gs_val (val_load1 kag3 rfl (sees_mem (by repeat (first | exact .head _ | refine .tail _ ?_ | refine List.mem_append_right _ ?_))) rfl) rfl rfl rfl ?_)
                    refine gl_cons (gs_val (val_move rfl) rfl rfl rfl ?_)
                    refine gl_cons (gs_turns (enters kcall27 (.cons rfl (.cons rfl (.cons rfl (.cons rfl .nil))))) (putK_spec b s Lb hb ok al[i].h al[i].s ((adL s)[j]'(by omega))) rfl rfl rfl (.tail .app) (fun _ _ => trivial) (fun L2 hb2 => ?_))
                    have hb2 : BK 154 157 3 4 b (putS s al[i].h al[i].s ((adL s)[j]'(by omega))) L2 := hb2
                    have hp2 := held_put (now := al[i].h) (seat := al[i].s) (amt := ((adL s)[j]'(by omega))) ok
                    have ok2 := putS_ok (now := al[i].h) (seat := al[i].s) (amt := ((adL s)[j]'(by omega))) ok
                    obtain ⟨pe, hpe⟩ : ∃ z, putE s al[i].h al[i].s ((adL s)[j]'(by omega)) = z := ⟨_, rfl⟩
                    obtain ⟨s2, hs2⟩ : ∃ z, putS s al[i].h al[i].s ((adL s)[j]'(by omega)) = z := ⟨_, rfl⟩
                    rw [hs2] at hb2 ok2 hp2
                    rw [hpe] at hp2 ⊢
                    have hh2 := held_bound ok2
                    refine gl_cons (gs_val (val_eql rfl rfl) rfl rfl rfl ?_)
                    refine gl_nil ?_
                    refine gk_seq ?_
                    refine gc_if rfl (fun h102 => ?_) (fun h102 => ?_)
                    · have e2 := hp2.1 h102
                      refine gc_region ?_
                      refine gl_cons (gs_val (val_move rfl) rfl rfl rfl ?_)
                      refine gl_cons (gs_val (val_move rfl) rfl rfl rfl ?_)
                      refine gl_cons (gs_val (val_addI rfl rfl (by omega)) rfl rfl rfl ?_)
                      refine gl_cons (gs_val (val_assign rfl) rfl rfl rfl ?_)
                      refine gl_nil ?_
                      refine gk_block ?_
                      refine gk_seq ?_
                      refine gc_seq ?_
                      refine gc_region ?_
                      refine gl_cons (gs_val (val_move rfl) rfl rfl rfl ?_)
                      refine gl_cons (gs_turns (enters kcall22 (.cons rfl .nil)) (heldK_spec b s2 L2 hb2 ok2) rfl rfl rfl (by first | exact .app | exact (.tail .app)) (fun _ _ => trivial) (fun _ _ => ?_))
                      refine gl_cons (gs_val (val_move rfl) rfl rfl rfl ?_)
                      refine gl_cons (gs_val (val_no (val_neq rfl rfl) (by omega)) rfl rfl rfl ?_)
                      refine gl_cons (gs_val (val_move rfl) rfl rfl rfl ?_)
                      refine gl_cons (gs_val (val_move rfl) rfl rfl rfl ?_)
                      refine gl_cons (gs_turns (enters kcall29 (.cons rfl .nil)) (potK_spec b s2 L2 hb2 ok2) rfl rfl rfl .app (fun _ _ => trivial) (fun _ _ => ?_))
                      refine gl_cons (gs_val (val_move rfl) rfl rfl rfl ?_)
                      refine gl_cons (gs_val (val_no (val_gtr rfl rfl) (by omega)) rfl rfl rfl ?_)
                      refine gl_cons (gs_val (val_pick_f rfl rfl) rfl rfl rfl ?_)
                      refine gl_cons (gs_val (val_move rfl) rfl rfl rfl ?_)
                      refine gl_cons (gs_val (val_move rfl) rfl rfl rfl ?_)
                      refine gl_cons (gs_turns (enters kcall29 (.cons rfl .nil)) (potK_spec b s2 L2 hb2 ok2) rfl rfl rfl .app (fun _ _ => trivial) (fun _ _ => ?_))
                      refine gl_cons (gs_val (val_no (val_lss rfl rfl) (by omega)) rfl rfl rfl ?_)
                      refine gl_cons (gs_val (val_pick_f rfl rfl) rfl rfl rfl ?_)
                      refine gl_nil ?_
                      refine gk_seq ?_
                      refine gc_false rfl ?_
                      refine gc_skip ?_
                      refine gk_block ?_
                      refine gk_seq ?_
                      refine gc_region ?_
                      refine gl_cons (gs_val (val_move rfl) rfl rfl rfl ?_)
                      refine gl_cons (gs_val (val_addI rfl rfl (by omega)) rfl rfl rfl ?_)
                      refine gl_cons (gs_val (val_assign rfl) rfl rfl rfl ?_)
                      refine gl_nil ?_
                      refine gk_again (i + 1, s2, L2) ?_ ?_ ?_ ?_
                      · exact ⟨by show i + 1 ≤ k; omega, hb2, ok2⟩
                      · show k - (i + 1) < k - i; omega
                      · refine .cons rfl (.cons (congrArg (fun z => some (I64 z)) (by show _ = heldS s2; omega)) ?_); repeat (first | exact .nil | refine .cons rfl ?_)
                      · first | exact fun _ h => h.sub (List.Sublist.append_left (List.nil_sublist _) L2) | exact fun _ h => h.sub (.cons _ (List.Sublist.append_left (List.nil_sublist _) L2))
                    · have e2 : heldS s2 = heldS s := congrArg heldS (hp2.2 h102)
                      refine gc_skip ?_
                      refine gk_block ?_
                      refine gk_seq ?_
                      refine gc_seq ?_
                      refine gc_region ?_
                      refine gl_cons (gs_val (val_move rfl) rfl rfl rfl ?_)
                      refine gl_cons (gs_turns (enters kcall22 (.cons rfl .nil)) (heldK_spec b s2 L2 hb2 ok2) rfl rfl rfl (by first | exact .app | exact (.tail .app)) (fun _ _ => trivial) (fun _ _ => ?_))
                      refine gl_cons (gs_val (val_move rfl) rfl rfl rfl ?_)
                      refine gl_cons (gs_val (val_no (val_neq rfl rfl) (by omega)) rfl rfl rfl ?_)
                      refine gl_cons (gs_val (val_move rfl) rfl rfl rfl ?_)
                      refine gl_cons (gs_val (val_move rfl) rfl rfl rfl ?_)
                      refine gl_cons (gs_turns (enters kcall29 (.cons rfl .nil)) (potK_spec b s2 L2 hb2 ok2) rfl rfl rfl .app (fun _ _ => trivial) (fun _ _ => ?_))
                      refine gl_cons (gs_val (val_move rfl) rfl rfl rfl ?_)
                      refine gl_cons (gs_val (val_no (val_gtr rfl rfl) (by omega)) rfl rfl rfl ?_)
                      refine gl_cons (gs_val (val_pick_f rfl rfl) rfl rfl rfl ?_)
                      refine gl_cons (gs_val (val_move rfl) rfl rfl rfl ?_)
                      refine gl_cons (gs_val (val_move rfl) rfl rfl rfl ?_)
                      refine gl_cons (gs_turns (enters kcall29 (.cons rfl .nil)) (potK_spec b s2 L2 hb2 ok2) rfl rfl rfl .app (fun _ _ => trivial) (fun _ _ => ?_))
                      refine gl_cons (gs_val (val_no (val_lss rfl rfl) (by omega)) rfl rfl rfl ?_)
                      refine gl_cons (gs_val (val_pick_f rfl rfl) rfl rfl rfl ?_)
                      refine gl_nil ?_
                      refine gk_seq ?_
                      refine gc_false rfl ?_
                      refine gc_skip ?_
                      refine gk_block ?_
                      refine gk_seq ?_
                      refine gc_region ?_
                      refine gl_cons (gs_val (val_move rfl) rfl rfl rfl ?_)
                      refine gl_cons (gs_val (val_addI rfl rfl (by omega)) rfl rfl rfl ?_)
                      refine gl_cons (gs_val (val_assign rfl) rfl rfl rfl ?_)
                      refine gl_nil ?_
                      refine gk_again (i + 1, s2, L2) ?_ ?_ ?_ ?_
                      · exact ⟨by show i + 1 ≤ k; omega, hb2, ok2⟩
                      · show k - (i + 1) < k - i; omega
                      · refine .cons rfl (.cons (congrArg (fun z => some (I64 z)) (by show _ = heldS s2; omega)) ?_); repeat (first | exact .nil | refine .cons rfl ?_)
                      · first | exact fun _ h => h.sub (List.Sublist.append_left (List.nil_sublist _) L2) | exact fun _ h => h.sub (.cons _ (List.Sublist.append_left (List.nil_sublist _) L2))
                  · skip
                    refine gc_seq ?_
                    refine gc_region ?_
                    refine gl_cons (gs_val (val_eql rfl rfl) rfl rfl rfl ?_)
                    refine gl_cons (gs_val (val_assign rfl) rfl rfl rfl ?_)
                    refine gl_nil ?_
                    refine gk_seq ?_
                    refine gc_if rfl (fun hk2 => ?_) (fun hk2 => ?_)
                    · skip
                      refine gc_seq ?_
                      refine gc_region ?_
                      refine gl_cons (gs_val (val_move rfl) rfl rfl rfl ?_)
                      refine gl_cons (gs_val (val_fieldAddr kfo35_1 rfl) rfl rfl rfl ?_)
                      refine gl_cons (gs_val (val_load1 kag3 rfl (sees_mem (by repeat (first | exact .head _ | refine .tail _ ?_ | refine List.mem_append_right _ ?_))) rfl) rfl rfl rfl ?_)
                      refine gl_cons (gs_val (val_fieldAddr kfo35_2 rfl) rfl rfl rfl ?_)
                      refine gl_cons (gs_val (val_load1 kag3 rfl (sees_mem (by repeat (first | exact .head _ | refine .tail _ ?_ | refine List.mem_append_right _ ?_))) rfl) rfl rfl rfl ?_)
                      refine gl_cons (gs_turns (enters kcall28 (.cons rfl (.cons rfl (.cons rfl .nil)))) (backK_spec b s Lb hb ok al[i].h al[i].s) rfl rfl rfl (.tail .app) (fun _ _ => trivial) (fun L2 hb2 => ?_))
                      have hb2 : BK 154 157 3 4 b (backS s al[i].h al[i].s) L2 := hb2
                      have hbk := held_back (now := al[i].h) (seat := al[i].s) ok
                      have ok2 := backS_ok (now := al[i].h) (seat := al[i].s) ok
                      obtain ⟨s2, hs2⟩ : ∃ z, backS s al[i].h al[i].s = z := ⟨_, rfl⟩
                      have e2 := hbk.1
                      rw [hs2] at hb2 ok2 e2
                      refine gl_cons (gs_val (val_move rfl) rfl rfl rfl ?_)
                      have hh2 := held_bound ok2
                      refine gl_cons (gs_val (val_extract rfl rfl) rfl rfl rfl ?_)
                      refine gl_cons (gs_val (val_extract rfl rfl) rfl rfl rfl ?_)
                      refine gl_cons (gs_val (val_assign rfl) rfl rfl rfl ?_)
                      refine gl_cons (gs_val (val_assign rfl) rfl rfl rfl ?_)
                      refine gl_nil ?_
                      refine gk_seq ?_
                      refine gc_seq ?_
                      refine gc_seq ?_
                      refine gc_region ?_
                      refine gl_cons (gs_val (val_move rfl) rfl rfl rfl ?_)
                      refine gl_cons (gs_val (val_eql rfl rfl) rfl rfl rfl ?_)
                      refine gl_cons (gs_val (val_move rfl) rfl rfl rfl ?_)
                      refine gl_cons (gs_val (val_gtr rfl rfl) rfl rfl rfl ?_)
                      refine gl_cons (gs_val (val_cast (v := .bool false) (val_neqB kun4 rfl rfl) (congrArg Value.bool (back_flip ok))) rfl rfl rfl ?_)
                      refine gl_nil ?_
                      refine gk_seq ?_
                      refine gc_false rfl ?_
                      refine gc_skip ?_
                      refine gk_seq ?_
                      refine gc_region ?_
                      refine gl_cons (gs_val (val_move rfl) rfl rfl rfl ?_)
                      refine gl_cons (gs_val (val_move rfl) rfl rfl rfl ?_)
                      refine gl_cons (gs_val (val_subI rfl rfl (by omega)) rfl rfl rfl ?_)
                      refine gl_cons (gs_val (val_assign rfl) rfl rfl rfl ?_)
                      refine gl_nil ?_
                      refine gk_block ?_
                      refine gk_seq ?_
                      refine gc_seq ?_
                      refine gc_region ?_
                      refine gl_cons (gs_val (val_move rfl) rfl rfl rfl ?_)
                      refine gl_cons (gs_turns (enters kcall22 (.cons rfl .nil)) (heldK_spec b s2 L2 hb2 ok2) rfl rfl rfl (by first | exact .app | exact (.tail .app)) (fun _ _ => trivial) (fun _ _ => ?_))
                      refine gl_cons (gs_val (val_move rfl) rfl rfl rfl ?_)
                      refine gl_cons (gs_val (val_no (val_neq rfl rfl) (by omega)) rfl rfl rfl ?_)
                      refine gl_cons (gs_val (val_move rfl) rfl rfl rfl ?_)
                      refine gl_cons (gs_val (val_move rfl) rfl rfl rfl ?_)
                      refine gl_cons (gs_turns (enters kcall29 (.cons rfl .nil)) (potK_spec b s2 L2 hb2 ok2) rfl rfl rfl .app (fun _ _ => trivial) (fun _ _ => ?_))
                      refine gl_cons (gs_val (val_move rfl) rfl rfl rfl ?_)
                      refine gl_cons (gs_val (val_no (val_gtr rfl rfl) (by omega)) rfl rfl rfl ?_)
                      refine gl_cons (gs_val (val_pick_f rfl rfl) rfl rfl rfl ?_)
                      refine gl_cons (gs_val (val_move rfl) rfl rfl rfl ?_)
                      refine gl_cons (gs_val (val_move rfl) rfl rfl rfl ?_)
                      refine gl_cons (gs_turns (enters kcall29 (.cons rfl .nil)) (potK_spec b s2 L2 hb2 ok2) rfl rfl rfl .app (fun _ _ => trivial) (fun _ _ => ?_))
                      refine gl_cons (gs_val (val_no (val_lss rfl rfl) (by omega)) rfl rfl rfl ?_)
                      refine gl_cons (gs_val (val_pick_f rfl rfl) rfl rfl rfl ?_)
                      refine gl_nil ?_
                      refine gk_seq ?_
                      refine gc_false rfl ?_
                      refine gc_skip ?_
                      refine gk_block ?_
                      refine gk_seq ?_
                      refine gc_region ?_
                      refine gl_cons (gs_val (val_move rfl) rfl rfl rfl ?_)
                      refine gl_cons (gs_val (val_addI rfl rfl (by omega)) rfl rfl rfl ?_)
                      refine gl_cons (gs_val (val_assign rfl) rfl rfl rfl ?_)
                      refine gl_nil ?_
                      refine gk_again (i + 1, s2, L2) ?_ ?_ ?_ ?_
                      · exact ⟨by show i + 1 ≤ k; omega, hb2, ok2⟩
                      · show k - (i + 1) < k - i; omega
                      · refine .cons rfl (.cons (congrArg (fun z => some (I64 z)) (by show _ = heldS s2; omega)) ?_); repeat (first | exact .nil | refine .cons rfl ?_)
                      · first | exact fun _ h => h.sub (List.Sublist.append_left (List.nil_sublist _) L2) | exact fun _ h => h.sub (.cons _ (List.Sublist.append_left (List.nil_sublist _) L2))
                    · obtain ⟨s2, rfl⟩ : ∃ z, z = s := ⟨_, rfl⟩
                      obtain ⟨L2, rfl⟩ : ∃ z, z = Lb := ⟨_, rfl⟩
                      have hb2 := hb
                      have ok2 := ok
                      have hh2 := held_bound ok2
                      refine gc_skip ?_
                      refine gk_block ?_
                      refine gk_seq ?_
                      refine gc_seq ?_
                      refine gc_region ?_
                      refine gl_cons (gs_val (val_move rfl) rfl rfl rfl ?_)
                      refine gl_cons (gs_turns (enters kcall22 (.cons rfl .nil)) (heldK_spec b s2 L2 hb2 ok2) rfl rfl rfl (by first | exact .app | exact (.tail .app)) (fun _ _ => trivial) (fun _ _ => ?_))
                      refine gl_cons (gs_val (val_move rfl) rfl rfl rfl ?_)
                      refine gl_cons (gs_val (val_no (val_neq rfl rfl) (by omega)) rfl rfl rfl ?_)
                      refine gl_cons (gs_val (val_move rfl) rfl rfl rfl ?_)
                      refine gl_cons (gs_val (val_move rfl) rfl rfl rfl ?_)
                      refine gl_cons (gs_turns (enters kcall29 (.cons rfl .nil)) (potK_spec b s2 L2 hb2 ok2) rfl rfl rfl .app (fun _ _ => trivial) (fun _ _ => ?_))
                      refine gl_cons (gs_val (val_move rfl) rfl rfl rfl ?_)
                      refine gl_cons (gs_val (val_no (val_gtr rfl rfl) (by omega)) rfl rfl rfl ?_)
                      refine gl_cons (gs_val (val_pick_f rfl rfl) rfl rfl rfl ?_)
                      refine gl_cons (gs_val (val_move rfl) rfl rfl rfl ?_)
                      refine gl_cons (gs_val (val_move rfl) rfl rfl rfl ?_)
                      refine gl_cons (gs_turns (enters kcall29 (.cons rfl .nil)) (potK_spec b s2 L2 hb2 ok2) rfl rfl rfl .app (fun _ _ => trivial) (fun _ _ => ?_))
                      refine gl_cons (gs_val (val_no (val_lss rfl rfl) (by omega)) rfl rfl rfl ?_)
                      refine gl_cons (gs_val (val_pick_f rfl rfl) rfl rfl rfl ?_)
                      refine gl_nil ?_
                      refine gk_seq ?_
                      refine gc_false rfl ?_
                      refine gc_skip ?_
                      refine gk_block ?_
                      refine gk_seq ?_
                      refine gc_region ?_
                      refine gl_cons (gs_val (val_move rfl) rfl rfl rfl ?_)
                      refine gl_cons (gs_val (val_addI rfl rfl (by omega)) rfl rfl rfl ?_)
                      refine gl_cons (gs_val (val_assign rfl) rfl rfl rfl ?_)
                      refine gl_nil ?_
                      refine gk_again (i + 1, s2, L2) ?_ ?_ ?_ ?_
                      · exact ⟨by show i + 1 ≤ k; omega, hb2, ok2⟩
                      · show k - (i + 1) < k - i; omega
                      · refine .cons rfl (.cons (congrArg (fun z => some (I64 z)) (by show _ = heldS s2; omega)) ?_); repeat (first | exact .nil | refine .cons rfl ?_)
                      · first | exact fun _ h => h.sub (List.Sublist.append_left (List.nil_sublist _) L2) | exact fun _ h => h.sub (.cons _ (List.Sublist.append_left (List.nil_sublist _) L2))
              · skip
                refine gc_skip ?_
                refine gk_seq ?_
                refine gc_seq ?_
                refine gc_seq ?_
                refine gc_region ?_
                refine gl_cons (gs_val (val_fieldAddr kfo35_0 rfl) rfl rfl rfl ?_)
                refine gl_cons (gs_val (val_load1 kag3 rfl (sees_mem (by repeat (first | exact .head _ | refine .tail _ ?_ | refine List.mem_append_right _ ?_))) rfl) rfl rfl rfl ?_)
                refine gl_nil ?_
                refine gk_seq ?_
                refine gc_block ?_
                refine gc_seq ?_
                refine gc_region ?_
                refine gl_cons (gs_val (val_eql rfl rfl) rfl rfl rfl ?_)
                refine gl_cons (gs_val (val_assign rfl) rfl rfl rfl ?_)
                refine gl_nil ?_
                refine gk_seq ?_
                refine gc_if rfl (fun hk0 => ?_) (fun hk0 => ?_)
                · skip
                  refine ga_start (m := 8) (ls := [false, false, false, false, false, false, false, false]) kmixed rfl rfl ?_
                  apply share3 (α := Option Addr) (β := Nat) (γ := List Ent) (m' := 1) (ls' := [true, true, true, true, true, true, true, false])
                  · intro hD0
                    apply share0  (m' := 2) (ls' := [true, true, true, true, true, true, false, false])
                    · intro hD1
                      apply share0  (m' := 3) (ls' := [true, true, true, true, true, false, false, false])
                      · intro hD2
                        refine ga_take (i := 0) (ls' := [true, false, false, false, false, false, false, false]) rfl (by kernel_rfl) rfl (fun _ _ _ => val_move rfl) rfl rfl rfl ?_
                        refine ga_take (i := 1) (ls' := [true, true, false, false, false, false, false, false]) rfl (by kernel_rfl) rfl (fun _ _ _ => val_fieldAddr kfo35_1 rfl) rfl rfl rfl ?_
                        refine ga_take (i := 3) (ls' := [true, true, false, true, false, false, false, false]) rfl (by kernel_rfl) rfl (fun _ _ _ => val_fieldAddr kfo35_4 rfl) rfl rfl rfl ?_
                        refine ga_branch (rs := [2, 4]) (by kernel_rfl) rfl (.cons (ls' := [true, true, true, true, false, false, false, false]) rfl rfl ?_ (.cons (ls' := [true, true, false, true, true, false, false, false]) rfl rfl ?_ .nil))
                        · skip
                          refine gs_val (val_load1 kag3 rfl (sees_mem (by repeat (first | exact .head _ | refine .tail _ ?_ | refine List.mem_append_right _ ?_))) rfl) rfl rfl rfl ?_
                          refine ga_branch (rs := [4]) (by kernel_rfl) rfl (.cons (ls' := [true, true, true, true, true, false, false, false]) rfl rfl ?_ .nil)
                          refine gs_val (val_loadA (ds := raL al[i].t al[i].num (.slice al[i].ra al[i].n al[i].c) al[i].un) kag33 rfl (sees_mem (by repeat (first | exact .head _ | refine .tail _ ?_ | refine List.mem_append_right _ ?_))) rfl rfl) rfl rfl rfl ?_
                          refine gx_env (F := [(1, _), (5, _), (7, _), (8, _), (9, _), (10, _), (12, _), (13, _), (35, _), (36, _), (37, _), (38, _), (39, _), (40, _), (41, _), (42, _), (45, _), (46, _), (47, _), (48, _), (49, _), (50, _), (51, _), (52, _), (53, _), (54, _), (55, _), (56, _), (57, _), (58, _), (59, _), (60, _), (61, _), (62, _), (63, _), (64, _), (65, _), (66, _), (67, _), (68, _), (69, _), (70, _), (71, _), (72, _), (73, _), (74, _), (81, _), (82, _), (83, _), (84, _), (85, _), (86, _), (87, _), (88, _), (89, _)]) (.cons rfl (.cons rfl (.cons rfl (.cons rfl (.cons rfl (.cons rfl (.cons rfl (.cons rfl (.cons rfl (.cons rfl (.cons rfl (.cons rfl (.cons rfl (.cons rfl (.cons rfl (.cons rfl (.cons rfl (.cons rfl (.cons rfl (.cons rfl (.cons rfl (.cons rfl (.cons rfl (.cons rfl (.cons rfl (.cons rfl (.cons rfl (.cons rfl (.cons rfl (.cons rfl (.cons rfl (.cons rfl (.cons rfl (.cons rfl (.cons rfl (.cons rfl (.cons rfl (.cons rfl (.cons rfl (.cons rfl (.cons rfl (.cons rfl (.cons rfl (.cons rfl (.cons rfl (.cons rfl (.cons rfl (.cons rfl (.cons rfl (.cons rfl (.cons rfl (.cons rfl (.cons rfl (.cons rfl (.cons rfl .nil))))))))))))))))))))))))))))))))))))))))))))))))))))))) (gx_perm (by first | exact .refl _ | (repeat (first | exact .refl _ | refine perm_take (by first | exact .head | exact .tail .head | exact .tail (.tail .head) | exact .tail (.tail (.tail .head)) | exact .tail (.tail (.tail (.tail .head))) | exact .tail (.tail (.tail (.tail (.tail .head))))) ?_ | refine perm_takeL (by repeat (first | exact .app | exact .here | apply TakeL.tail | apply TakeL.appr)) ?_ | refine perm_takeX (by repeat (first | exact .cons .head .nil | apply TakeL.tail | apply TakeL.appr)) ?_))) (hD2  True.intro))
                        · skip
                          refine gs_val (val_loadA (ds := raL al[i].t al[i].num (.slice al[i].ra al[i].n al[i].c) al[i].un) kag33 rfl (sees_mem (by repeat (first | exact .head _ | refine .tail _ ?_ | refine List.mem_append_right _ ?_))) rfl rfl) rfl rfl rfl ?_
                          refine ga_branch (rs := [2, 5]) (by kernel_rfl) rfl (.cons (ls' := [true, true, true, true, true, false, false, false]) rfl rfl ?_ (.cons (ls' := [true, true, false, true, true, true, false, false]) rfl rfl ?_ .nil))
                          · skip
                            refine gs_val (val_load1 kag3 rfl (sees_mem (by repeat (first | exact .head _ | refine .tail _ ?_ | refine List.mem_append_right _ ?_))) rfl) rfl rfl rfl ?_
                            refine gx_env (F := [(1, _), (5, _), (7, _), (8, _), (9, _), (10, _), (12, _), (13, _), (35, _), (36, _), (37, _), (38, _), (39, _), (40, _), (41, _), (42, _), (45, _), (46, _), (47, _), (48, _), (49, _), (50, _), (51, _), (52, _), (53, _), (54, _), (55, _), (56, _), (57, _), (58, _), (59, _), (60, _), (61, _), (62, _), (63, _), (64, _), (65, _), (66, _), (67, _), (68, _), (69, _), (70, _), (71, _), (72, _), (73, _), (74, _), (81, _), (82, _), (83, _), (84, _), (85, _), (86, _), (87, _), (88, _), (89, _)]) (.cons rfl (.cons rfl (.cons rfl (.cons rfl (.cons rfl (.cons rfl (.cons rfl (.cons rfl (.cons rfl (.cons rfl (.cons rfl (.cons rfl (.cons rfl (.cons rfl (.cons rfl (.cons rfl (.cons rfl (.cons rfl (.cons rfl (.cons rfl (.cons rfl (.cons rfl (.cons rfl (.cons rfl (.cons rfl (.cons rfl (.cons rfl (.cons rfl (.cons rfl (.cons rfl (.cons rfl (.cons rfl (.cons rfl (.cons rfl (.cons rfl (.cons rfl (.cons rfl (.cons rfl (.cons rfl (.cons rfl (.cons rfl (.cons rfl (.cons rfl (.cons rfl (.cons rfl (.cons rfl (.cons rfl (.cons rfl (.cons rfl (.cons rfl (.cons rfl (.cons rfl (.cons rfl (.cons rfl (.cons rfl .nil))))))))))))))))))))))))))))))))))))))))))))))))))))))) (gx_perm (by first | exact .refl _ | (repeat (first | exact .refl _ | refine perm_take (by first | exact .head | exact .tail .head | exact .tail (.tail .head) | exact .tail (.tail (.tail .head)) | exact .tail (.tail (.tail (.tail .head))) | exact .tail (.tail (.tail (.tail (.tail .head))))) ?_ | refine perm_takeL (by repeat (first | exact .app | exact .here | apply TakeL.tail | apply TakeL.appr)) ?_ | refine perm_takeX (by repeat (first | exact .cons .head .nil | apply TakeL.tail | apply TakeL.appr)) ?_))) (hD2  True.intro))
                          · skip
                            refine gs_pure (enters kcall26 (.cons rfl .nil)) (of_spec al[i].t al[i].num al[i].un al[i].ra al[i].n al[i].c (min al[i].n 10) rfl (hal _ (List.getElem_mem hil)).2.1) rfl rfl rfl (fun _ _ => trivial) ?_
                            refine ga_branch (rs := [2, 6]) (by kernel_rfl) rfl (.cons (ls' := [true, true, true, true, true, true, false, false]) rfl rfl ?_ (.cons (ls' := [true, true, false, true, true, true, true, false]) rfl rfl ?_ .nil))
                            · skip
                              refine gs_val (val_load1 kag3 rfl (sees_mem (by repeat (first | exact .head _ | refine .tail _ ?_ | refine List.mem_append_right _ ?_))) rfl) rfl rfl rfl ?_
                              refine gx_env (F := [(1, _), (5, _), (7, _), (8, _), (9, _), (10, _), (12, _), (13, _), (35, _), (36, _), (37, _), (38, _), (39, _), (40, _), (41, _), (42, _), (45, _), (46, _), (47, _), (48, _), (49, _), (50, _), (51, _), (52, _), (53, _), (54, _), (55, _), (56, _), (57, _), (58, _), (59, _), (60, _), (61, _), (62, _), (63, _), (64, _), (65, _), (66, _), (67, _), (68, _), (69, _), (70, _), (71, _), (72, _), (73, _), (74, _), (81, _), (82, _), (83, _), (84, _), (85, _), (86, _), (87, _), (88, _), (89, _), (90, _)]) (.cons rfl (.cons rfl (.cons rfl (.cons rfl (.cons rfl (.cons rfl (.cons rfl (.cons rfl (.cons rfl (.cons rfl (.cons rfl (.cons rfl (.cons rfl (.cons rfl (.cons rfl (.cons rfl (.cons rfl (.cons rfl (.cons rfl (.cons rfl (.cons rfl (.cons rfl (.cons rfl (.cons rfl (.cons rfl (.cons rfl (.cons rfl (.cons rfl (.cons rfl (.cons rfl (.cons rfl (.cons rfl (.cons rfl (.cons rfl (.cons rfl (.cons rfl (.cons rfl (.cons rfl (.cons rfl (.cons rfl (.cons rfl (.cons rfl (.cons rfl (.cons rfl (.cons rfl (.cons rfl (.cons rfl (.cons rfl (.cons rfl (.cons rfl (.cons rfl (.cons rfl (.cons rfl (.cons rfl (.cons rfl (.cons rfl .nil)))))))))))))))))))))))))))))))))))))))))))))))))))))))) (gx_perm (by first | exact .refl _ | (repeat (first | exact .refl _ | refine perm_take (by first | exact .head | exact .tail .head | exact .tail (.tail .head) | exact .tail (.tail (.tail .head)) | exact .tail (.tail (.tail (.tail .head))) | exact .tail (.tail (.tail (.tail (.tail .head))))) ?_ | refine perm_takeL (by repeat (first | exact .app | exact .here | apply TakeL.tail | apply TakeL.appr)) ?_ | refine perm_takeX (by repeat (first | exact .cons .head .nil | apply TakeL.tail | apply TakeL.appr)) ?_))) (hD1  True.intro))
                            · skip
                              refine gs_makes (enters kcall25 (.cons rfl .nil)) (to_spec al[i].t al[i].num al[i].un al[i].ra (min al[i].n 10) al[i].c (al[i].ad.take (min al[i].n 10)) (by rw [List.length_take, (hal _ (List.getElem_mem hil)).1]; omega) (by omega)) rfl rfl rfl (row_of_sees (((sees_row (hpre.2.2 _ (List.getElem_mem hil))).take (min al[i].n 10)).cast (ds := (al[i].ad.take (min al[i].n 10)).map I64) (by rw [List.map_take]))) (fun ⟨ta, tc, tN⟩ hto => ?_)
                              have hto : Own 3 1 ta (min al[i].n 10) tc ((al[i].ad.take (min al[i].n 10)).map I64) tN := hto
                              have hal1 := (hal _ (List.getElem_mem hil)).1
                              refine ga_branch (rs := [2]) (by kernel_rfl) rfl (.cons (ls' := [true, true, true, true, true, true, true, false]) rfl rfl ?_ .nil)
                              refine gs_val (val_load1 kag3 rfl (sees_mem (by repeat (first | exact .head _ | refine .tail _ ?_ | refine List.mem_append_right _ ?_))) rfl) rfl rfl rfl ?_
                              refine gx_env (F := [(1, _), (5, _), (7, _), (8, _), (9, _), (10, _), (12, _), (13, _), (35, _), (36, _), (37, _), (38, _), (39, _), (40, _), (41, _), (42, _), (45, _), (46, _), (47, _), (48, _), (49, _), (50, _), (51, _), (52, _), (53, _), (54, _), (55, _), (56, _), (57, _), (58, _), (59, _), (60, _), (61, _), (62, _), (63, _), (64, _), (65, _), (66, _), (67, _), (68, _), (69, _), (70, _), (71, _), (72, _), (73, _), (74, _), (81, _), (82, _), (83, _), (84, _), (85, _), (86, _), (87, _), (88, _), (89, _), (90, _), (91, _)]) (.cons rfl (.cons rfl (.cons rfl (.cons rfl (.cons rfl (.cons rfl (.cons rfl (.cons rfl (.cons rfl (.cons rfl (.cons rfl (.cons rfl (.cons rfl (.cons rfl (.cons rfl (.cons rfl (.cons rfl (.cons rfl (.cons rfl (.cons rfl (.cons rfl (.cons rfl (.cons rfl (.cons rfl (.cons rfl (.cons rfl (.cons rfl (.cons rfl (.cons rfl (.cons rfl (.cons rfl (.cons rfl (.cons rfl (.cons rfl (.cons rfl (.cons rfl (.cons rfl (.cons rfl (.cons rfl (.cons rfl (.cons rfl (.cons rfl (.cons rfl (.cons rfl (.cons rfl (.cons rfl (.cons rfl (.cons rfl (.cons rfl (.cons rfl (.cons rfl (.cons rfl (.cons rfl (.cons rfl (.cons rfl (.cons rfl (.cons rfl .nil))))))))))))))))))))))))))))))))))))))))))))))))))))))))) (gx_perm (by first | exact .refl _ | (repeat (first | exact .refl _ | refine perm_take (by first | exact .head | exact .tail .head | exact .tail (.tail .head) | exact .tail (.tail (.tail .head)) | exact .tail (.tail (.tail (.tail .head))) | exact .tail (.tail (.tail (.tail (.tail .head))))) ?_ | refine perm_takeL (by repeat (first | exact .app | exact .here | apply TakeL.tail | apply TakeL.appr)) ?_ | refine perm_takeX (by repeat (first | exact .cons .head .nil | apply TakeL.tail | apply TakeL.appr)) ?_))) (hD0 ta tc tN (And.intro hto True.intro)))
                      · rintro  _
                        refine ga_branch (rs := [5]) (by kernel_rfl) rfl (.cons (ls' := [true, true, true, true, true, true, false, false]) rfl rfl ?_ .nil)
                        refine gs_pure (enters kcall26 (.cons rfl .nil)) (of_spec al[i].t al[i].num al[i].un al[i].ra al[i].n al[i].c (min al[i].n 10) rfl (hal _ (List.getElem_mem hil)).2.1) rfl rfl rfl (fun _ _ => trivial) ?_
                        refine gx_env (F := [(1, _), (5, _), (7, _), (8, _), (9, _), (10, _), (12, _), (13, _), (35, _), (36, _), (37, _), (38, _), (39, _), (40, _), (41, _), (42, _), (45, _), (46, _), (47, _), (48, _), (49, _), (50, _), (51, _), (52, _), (53, _), (54, _), (55, _), (56, _), (57, _), (58, _), (59, _), (60, _), (61, _), (62, _), (63, _), (64, _), (65, _), (66, _), (67, _), (68, _), (69, _), (70, _), (71, _), (72, _), (73, _), (74, _), (81, _), (82, _), (83, _), (84, _), (85, _), (86, _), (87, _), (88, _), (89, _), (90, _)]) (.cons rfl (.cons rfl (.cons rfl (.cons rfl (.cons rfl (.cons rfl (.cons rfl (.cons rfl (.cons rfl (.cons rfl (.cons rfl (.cons rfl (.cons rfl (.cons rfl (.cons rfl (.cons rfl (.cons rfl (.cons rfl (.cons rfl (.cons rfl (.cons rfl (.cons rfl (.cons rfl (.cons rfl (.cons rfl (.cons rfl (.cons rfl (.cons rfl (.cons rfl (.cons rfl (.cons rfl (.cons rfl (.cons rfl (.cons rfl (.cons rfl (.cons rfl (.cons rfl (.cons rfl (.cons rfl (.cons rfl (.cons rfl (.cons rfl (.cons rfl (.cons rfl (.cons rfl (.cons rfl (.cons rfl (.cons rfl (.cons rfl (.cons rfl (.cons rfl (.cons rfl (.cons rfl (.cons rfl (.cons rfl (.cons rfl .nil)))))))))))))))))))))))))))))))))))))))))))))))))))))))) (gx_perm (by first | exact .refl _ | (repeat (first | exact .refl _ | refine perm_take (by first | exact .head | exact .tail .head | exact .tail (.tail .head) | exact .tail (.tail (.tail .head)) | exact .tail (.tail (.tail (.tail .head))) | exact .tail (.tail (.tail (.tail (.tail .head))))) ?_ | refine perm_takeL (by repeat (first | exact .app | exact .here | apply TakeL.tail | apply TakeL.appr)) ?_ | refine perm_takeX (by repeat (first | exact .cons .head .nil | apply TakeL.tail | apply TakeL.appr)) ?_))) (hD1  True.intro))
                    · rintro  _
                      refine ga_branch (rs := [6]) (by kernel_rfl) rfl (.cons (ls' := [true, true, true, true, true, true, true, false]) rfl rfl ?_ .nil)
                      refine gs_makes (enters kcall25 (.cons rfl .nil)) (to_spec al[i].t al[i].num al[i].un al[i].ra (min al[i].n 10) al[i].c (al[i].ad.take (min al[i].n 10)) (by rw [List.length_take, (hal _ (List.getElem_mem hil)).1]; omega) (by omega)) rfl rfl rfl (row_of_sees (((sees_row (hpre.2.2 _ (List.getElem_mem hil))).take (min al[i].n 10)).cast (ds := (al[i].ad.take (min al[i].n 10)).map I64) (by rw [List.map_take]))) (fun ⟨ta, tc, tN⟩ hto => ?_)
                      have hto : Own 3 1 ta (min al[i].n 10) tc ((al[i].ad.take (min al[i].n 10)).map I64) tN := hto
                      have hal1 := (hal _ (List.getElem_mem hil)).1
                      refine gx_env (F := [(1, _), (5, _), (7, _), (8, _), (9, _), (10, _), (12, _), (13, _), (35, _), (36, _), (37, _), (38, _), (39, _), (40, _), (41, _), (42, _), (45, _), (46, _), (47, _), (48, _), (49, _), (50, _), (51, _), (52, _), (53, _), (54, _), (55, _), (56, _), (57, _), (58, _), (59, _), (60, _), (61, _), (62, _), (63, _), (64, _), (65, _), (66, _), (67, _), (68, _), (69, _), (70, _), (71, _), (72, _), (73, _), (74, _), (81, _), (82, _), (83, _), (84, _), (85, _), (86, _), (87, _), (88, _), (89, _), (90, _), (91, _)]) (.cons rfl (.cons rfl (.cons rfl (.cons rfl (.cons rfl (.cons rfl (.cons rfl (.cons rfl (.cons rfl (.cons rfl (.cons rfl (.cons rfl (.cons rfl (.cons rfl (.cons rfl (.cons rfl (.cons rfl (.cons rfl (.cons rfl (.cons rfl (.cons rfl (.cons rfl (.cons rfl (.cons rfl (.cons rfl (.cons rfl (.cons rfl (.cons rfl (.cons rfl (.cons rfl (.cons rfl (.cons rfl (.cons rfl (.cons rfl (.cons rfl (.cons rfl (.cons rfl (.cons rfl (.cons rfl (.cons rfl (.cons rfl (.cons rfl (.cons rfl (.cons rfl (.cons rfl (.cons rfl (.cons rfl (.cons rfl (.cons rfl (.cons rfl (.cons rfl (.cons rfl (.cons rfl (.cons rfl (.cons rfl (.cons rfl (.cons rfl .nil))))))))))))))))))))))))))))))))))))))))))))))))))))))))) (gx_perm (by first | exact .refl _ | (repeat (first | exact .refl _ | refine perm_take (by first | exact .head | exact .tail .head | exact .tail (.tail .head) | exact .tail (.tail (.tail .head)) | exact .tail (.tail (.tail (.tail .head))) | exact .tail (.tail (.tail (.tail (.tail .head))))) ?_ | refine perm_takeL (by repeat (first | exact .app | exact .here | apply TakeL.tail | apply TakeL.appr)) ?_ | refine perm_takeX (by repeat (first | exact .cons .head .nil | apply TakeL.tail | apply TakeL.appr)) ?_))) (hD0 ta tc tN (And.intro hto True.intro)))
                  · rintro ta tc tN ⟨hto, _⟩
                    refine ga_branch (rs := [7]) (by kernel_rfl) rfl (.cons (ls' := [true, true, true, true, true, true, true, true]) rfl rfl ?_ .nil)
                    refine gs_turns (enters kcall24 (.cons rfl (.cons rfl (.cons rfl .nil)))) ((by have h9 := askK_spec b s Lb hb ok al[i].h al[i].t al[i].num al[i].un ta tc (al[i].ad.take (min al[i].n 10)) (by rw [List.length_take]; omega); rw [show (al[i].ad.take (min al[i].n 10)).length = min al[i].n 10 by rw [List.length_take, (hal _ (List.getElem_mem hil)).1]; omega] at h9; exact h9)) rfl rfl rfl (.appr (.tail .app)) (row_of_ownL hto (.appr (.tail .app)) .app) (fun L2 hb2 => ?_)
                    have hb2 : BK 154 157 3 4 b (askS s al[i].h al[i].t al[i].num al[i].un (al[i].ad.take (min al[i].n 10))) L2 := hb2
                    have ok2 := askS_ok (now := al[i].h) (rt := al[i].t) (rn := al[i].num) (ru := al[i].un) (rad := (al[i].ad.take (min al[i].n 10))) ok
                    have e2 : heldS (askS s al[i].h al[i].t al[i].num al[i].un (al[i].ad.take (min al[i].n 10))) = heldS s := held_ask
                    obtain ⟨s2, hs2⟩ : ∃ z, askS s al[i].h al[i].t al[i].num al[i].un (al[i].ad.take (min al[i].n 10)) = z := ⟨_, rfl⟩
                    rw [hs2] at hb2 ok2 e2
                    have hh2 := held_bound ok2
                    refine ga_done (by kernel_rfl) ?_
                    refine gk_block ?_
                    refine gk_seq ?_
                    refine gc_seq ?_
                    refine gc_region ?_
                    refine gl_cons (gs_val (val_move rfl) rfl rfl rfl ?_)
                    refine gl_cons (gs_turns (enters kcall22 (.cons rfl .nil)) (heldK_spec b s2 L2 hb2 ok2) rfl rfl rfl (by first | exact .app | exact (.tail .app)) (fun _ _ => trivial) (fun _ _ => ?_))
                    refine gl_cons (gs_val (val_move rfl) rfl rfl rfl ?_)
                    refine gl_cons (gs_val (val_no (val_neq rfl rfl) (by omega)) rfl rfl rfl ?_)
                    refine gl_cons (gs_val (val_move rfl) rfl rfl rfl ?_)
                    refine gl_cons (gs_val (val_move rfl) rfl rfl rfl ?_)
                    refine gl_cons (gs_turns (enters kcall29 (.cons rfl .nil)) (potK_spec b s2 L2 hb2 ok2) rfl rfl rfl .app (fun _ _ => trivial) (fun _ _ => ?_))
                    refine gl_cons (gs_val (val_move rfl) rfl rfl rfl ?_)
                    refine gl_cons (gs_val (val_no (val_gtr rfl rfl) (by omega)) rfl rfl rfl ?_)
                    refine gl_cons (gs_val (val_pick_f rfl rfl) rfl rfl rfl ?_)
                    refine gl_cons (gs_val (val_move rfl) rfl rfl rfl ?_)
                    refine gl_cons (gs_val (val_move rfl) rfl rfl rfl ?_)
                    refine gl_cons (gs_turns (enters kcall29 (.cons rfl .nil)) (potK_spec b s2 L2 hb2 ok2) rfl rfl rfl .app (fun _ _ => trivial) (fun _ _ => ?_))
                    refine gl_cons (gs_val (val_no (val_lss rfl rfl) (by omega)) rfl rfl rfl ?_)
                    refine gl_cons (gs_val (val_pick_f rfl rfl) rfl rfl rfl ?_)
                    refine gl_nil ?_
                    refine gk_seq ?_
                    refine gc_false rfl ?_
                    refine gc_skip ?_
                    refine gk_block ?_
                    refine gk_seq ?_
                    refine gc_region ?_
                    refine gl_cons (gs_val (val_move rfl) rfl rfl rfl ?_)
                    refine gl_cons (gs_val (val_addI rfl rfl (by omega)) rfl rfl rfl ?_)
                    refine gl_cons (gs_val (val_assign rfl) rfl rfl rfl ?_)
                    refine gl_nil ?_
                    refine gk_again (i + 1, s2, L2) ?_ ?_ ?_ ?_
                    · exact ⟨by show i + 1 ≤ k; omega, hb2, ok2⟩
                    · show k - (i + 1) < k - i; omega
                    · refine .cons rfl (.cons (congrArg (fun z => some (I64 z)) (by show _ = heldS s2; omega)) ?_); repeat (first | exact .nil | refine .cons rfl ?_)
                    · first | exact fun _ h => h.sub (List.Sublist.append_left (List.nil_sublist _) L2) | exact fun _ h => h.sub (.cons _ (List.Sublist.append_left (List.nil_sublist _) L2))
                · skip
                  refine gc_seq ?_
                  refine gc_region ?_
                  refine gl_cons (gs_val (val_eql rfl rfl) rfl rfl rfl ?_)
                  refine gl_cons (gs_val (val_assign rfl) rfl rfl rfl ?_)
                  refine gl_nil ?_
                  refine gk_seq ?_
                  refine gc_if rfl (fun hk1 => ?_) (fun hk1 => ?_)
                  · skip
                    refine gc_seq ?_
                    refine gc_region ?_
                    refine gl_cons (gs_val (val_move rfl) rfl rfl rfl ?_)
                    refine gl_cons (gs_val (val_fieldAddr kfo35_1 rfl) rfl rfl rfl ?_)
                    refine gl_cons (gs_val (val_load1 kag3 rfl (sees_mem (by repeat (first | exact .head _ | refine .tail _ ?_ | refine List.mem_append_right _ ?_))) rfl) rfl rfl rfl ?_)
                    refine gl_cons (gs_val (val_fieldAddr kfo35_2 rfl) rfl rfl rfl ?_)
                    refine gl_cons (gs_val (val_load1 kag3 rfl (sees_mem (by repeat (first | exact .head _ | refine .tail _ ?_ | refine List.mem_append_right _ ?_))) rfl) rfl rfl rfl ?_)
                    refine gl_cons (gs_val (val_move rfl) rfl rfl rfl ?_)
                    refine gl_cons (gs_turns (enters kcall27 (.cons rfl (.cons rfl (.cons rfl (.cons rfl .nil))))) (putK_spec b s Lb hb ok al[i].h al[i].s al[i].m) rfl rfl rfl (.tail .app) (fun _ _ => trivial) (fun L2 hb2 => ?_))
                    have hb2 : BK 154 157 3 4 b (putS s al[i].h al[i].s al[i].m) L2 := hb2
                    have hp2 := held_put (now := al[i].h) (seat := al[i].s) (amt := al[i].m) ok
                    have ok2 := putS_ok (now := al[i].h) (seat := al[i].s) (amt := al[i].m) ok
                    obtain ⟨pe, hpe⟩ : ∃ z, putE s al[i].h al[i].s al[i].m = z := ⟨_, rfl⟩
                    obtain ⟨s2, hs2⟩ : ∃ z, putS s al[i].h al[i].s al[i].m = z := ⟨_, rfl⟩
                    rw [hs2] at hb2 ok2 hp2
                    rw [hpe] at hp2 ⊢
                    have hh2 := held_bound ok2
                    refine gl_cons (gs_val (val_eql rfl rfl) rfl rfl rfl ?_)
                    refine gl_nil ?_
                    refine gk_seq ?_
                    refine gc_if rfl (fun h102 => ?_) (fun h102 => ?_)
                    · have e2 := hp2.1 h102
                      refine gc_region ?_
                      refine gl_cons (gs_val (val_move rfl) rfl rfl rfl ?_)
                      refine gl_cons (gs_val (val_move rfl) rfl rfl rfl ?_)
                      refine gl_cons (gs_val (val_addI rfl rfl (by omega)) rfl rfl rfl ?_)
                      refine gl_cons (gs_val (val_assign rfl) rfl rfl rfl ?_)
                      refine gl_nil ?_
                      refine gk_block ?_
                      refine gk_seq ?_
                      refine gc_seq ?_
                      refine gc_region ?_
                      refine gl_cons (gs_val (val_move rfl) rfl rfl rfl ?_)
                      refine gl_cons (gs_turns (enters kcall22 (.cons rfl .nil)) (heldK_spec b s2 L2 hb2 ok2) rfl rfl rfl (by first | exact .app | exact (.tail .app)) (fun _ _ => trivial) (fun _ _ => ?_))
                      refine gl_cons (gs_val (val_move rfl) rfl rfl rfl ?_)
                      refine gl_cons (gs_val (val_no (val_neq rfl rfl) (by omega)) rfl rfl rfl ?_)
                      refine gl_cons (gs_val (val_move rfl) rfl rfl rfl ?_)
                      refine gl_cons (gs_val (val_move rfl) rfl rfl rfl ?_)
                      refine gl_cons (gs_turns (enters kcall29 (.cons rfl .nil)) (potK_spec b s2 L2 hb2 ok2) rfl rfl rfl .app (fun _ _ => trivial) (fun _ _ => ?_))
                      refine gl_cons (gs_val (val_move rfl) rfl rfl rfl ?_)
                      refine gl_cons (gs_val (val_no (val_gtr rfl rfl) (by omega)) rfl rfl rfl ?_)
                      refine gl_cons (gs_val (val_pick_f rfl rfl) rfl rfl rfl ?_)
                      refine gl_cons (gs_val (val_move rfl) rfl rfl rfl ?_)
                      refine gl_cons (gs_val (val_move rfl) rfl rfl rfl ?_)
                      refine gl_cons (gs_turns (enters kcall29 (.cons rfl .nil)) (potK_spec b s2 L2 hb2 ok2) rfl rfl rfl .app (fun _ _ => trivial) (fun _ _ => ?_))
                      refine gl_cons (gs_val (val_no (val_lss rfl rfl) (by omega)) rfl rfl rfl ?_)
                      refine gl_cons (gs_val (val_pick_f rfl rfl) rfl rfl rfl ?_)
                      refine gl_nil ?_
                      refine gk_seq ?_
                      refine gc_false rfl ?_
                      refine gc_skip ?_
                      refine gk_block ?_
                      refine gk_seq ?_
                      refine gc_region ?_
                      refine gl_cons (gs_val (val_move rfl) rfl rfl rfl ?_)
                      refine gl_cons (gs_val (val_addI rfl rfl (by omega)) rfl rfl rfl ?_)
                      refine gl_cons (gs_val (val_assign rfl) rfl rfl rfl ?_)
                      refine gl_nil ?_
                      refine gk_again (i + 1, s2, L2) ?_ ?_ ?_ ?_
                      · exact ⟨by show i + 1 ≤ k; omega, hb2, ok2⟩
                      · show k - (i + 1) < k - i; omega
                      · refine .cons rfl (.cons (congrArg (fun z => some (I64 z)) (by show _ = heldS s2; omega)) ?_); repeat (first | exact .nil | refine .cons rfl ?_)
                      · first | exact fun _ h => h.sub (List.Sublist.append_left (List.nil_sublist _) L2) | exact fun _ h => h.sub (.cons _ (List.Sublist.append_left (List.nil_sublist _) L2))
                    · have e2 : heldS s2 = heldS s := congrArg heldS (hp2.2 h102)
                      refine gc_skip ?_
                      refine gk_block ?_
                      refine gk_seq ?_
                      refine gc_seq ?_
                      refine gc_region ?_
                      refine gl_cons (gs_val (val_move rfl) rfl rfl rfl ?_)
                      refine gl_cons (gs_turns (enters kcall22 (.cons rfl .nil)) (heldK_spec b s2 L2 hb2 ok2) rfl rfl rfl (by first | exact .app | exact (.tail .app)) (fun _ _ => trivial) (fun _ _ => ?_))
                      refine gl_cons (gs_val (val_move rfl) rfl rfl rfl ?_)
                      refine gl_cons (gs_val (val_no (val_neq rfl rfl) (by omega)) rfl rfl rfl ?_)
                      refine gl_cons (gs_val (val_move rfl) rfl rfl rfl ?_)
                      refine gl_cons (gs_val (val_move rfl) rfl rfl rfl ?_)
                      refine gl_cons (gs_turns (enters kcall29 (.cons rfl .nil)) (potK_spec b s2 L2 hb2 ok2) rfl rfl rfl .app (fun _ _ => trivial) (fun _ _ => ?_))
                      refine gl_cons (gs_val (val_move rfl) rfl rfl rfl ?_)
                      refine gl_cons (gs_val (val_no (val_gtr rfl rfl) (by omega)) rfl rfl rfl ?_)
                      refine gl_cons (gs_val (val_pick_f rfl rfl) rfl rfl rfl ?_)
                      refine gl_cons (gs_val (val_move rfl) rfl rfl rfl ?_)
                      refine gl_cons (gs_val (val_move rfl) rfl rfl rfl ?_)
                      refine gl_cons (gs_turns (enters kcall29 (.cons rfl .nil)) (potK_spec b s2 L2 hb2 ok2) rfl rfl rfl .app (fun _ _ => trivial) (fun _ _ => ?_))
                      refine gl_cons (gs_val (val_no (val_lss rfl rfl) (by omega)) rfl rfl rfl ?_)
                      refine gl_cons (gs_val (val_pick_f rfl rfl) rfl rfl rfl ?_)
                      refine gl_nil ?_
                      refine gk_seq ?_
                      refine gc_false rfl ?_
                      refine gc_skip ?_
                      refine gk_block ?_
                      refine gk_seq ?_
                      refine gc_region ?_
                      refine gl_cons (gs_val (val_move rfl) rfl rfl rfl ?_)
                      refine gl_cons (gs_val (val_addI rfl rfl (by omega)) rfl rfl rfl ?_)
                      refine gl_cons (gs_val (val_assign rfl) rfl rfl rfl ?_)
                      refine gl_nil ?_
                      refine gk_again (i + 1, s2, L2) ?_ ?_ ?_ ?_
                      · exact ⟨by show i + 1 ≤ k; omega, hb2, ok2⟩
                      · show k - (i + 1) < k - i; omega
                      · refine .cons rfl (.cons (congrArg (fun z => some (I64 z)) (by show _ = heldS s2; omega)) ?_); repeat (first | exact .nil | refine .cons rfl ?_)
                      · first | exact fun _ h => h.sub (List.Sublist.append_left (List.nil_sublist _) L2) | exact fun _ h => h.sub (.cons _ (List.Sublist.append_left (List.nil_sublist _) L2))
                  · skip
                    refine gc_seq ?_
                    refine gc_region ?_
                    refine gl_cons (gs_val (val_eql rfl rfl) rfl rfl rfl ?_)
                    refine gl_cons (gs_val (val_assign rfl) rfl rfl rfl ?_)
                    refine gl_nil ?_
                    refine gk_seq ?_
                    refine gc_if rfl (fun hk2 => ?_) (fun hk2 => ?_)
                    · skip
                      refine gc_seq ?_
                      refine gc_region ?_
                      refine gl_cons (gs_val (val_move rfl) rfl rfl rfl ?_)
                      refine gl_cons (gs_val (val_fieldAddr kfo35_1 rfl) rfl rfl rfl ?_)
                      refine gl_cons (gs_val (val_load1 kag3 rfl (sees_mem (by repeat (first | exact .head _ | refine .tail _ ?_ | refine List.mem_append_right _ ?_))) rfl) rfl rfl rfl ?_)
                      refine gl_cons (gs_val (val_fieldAddr kfo35_2 rfl) rfl rfl rfl ?_)
                      refine gl_cons (gs_val (val_load1 kag3 rfl (sees_mem (by repeat (first | exact .head _ | refine .tail _ ?_ | refine List.mem_append_right _ ?_))) rfl) rfl rfl rfl ?_)
                      refine gl_cons (gs_turns (enters kcall28 (.cons rfl (.cons rfl (.cons rfl .nil)))) (backK_spec b s Lb hb ok al[i].h al[i].s) rfl rfl rfl (.tail .app) (fun _ _ => trivial) (fun L2 hb2 => ?_))
                      have hb2 : BK 154 157 3 4 b (backS s al[i].h al[i].s) L2 := hb2
                      have hbk := held_back (now := al[i].h) (seat := al[i].s) ok
                      have ok2 := backS_ok (now := al[i].h) (seat := al[i].s) ok
                      obtain ⟨s2, hs2⟩ : ∃ z, backS s al[i].h al[i].s = z := ⟨_, rfl⟩
                      have e2 := hbk.1
                      rw [hs2] at hb2 ok2 e2
                      refine gl_cons (gs_val (val_move rfl) rfl rfl rfl ?_)
                      have hh2 := held_bound ok2
                      refine gl_cons (gs_val (val_extract rfl rfl) rfl rfl rfl ?_)
                      refine gl_cons (gs_val (val_extract rfl rfl) rfl rfl rfl ?_)
                      refine gl_cons (gs_val (val_assign rfl) rfl rfl rfl ?_)
                      refine gl_cons (gs_val (val_assign rfl) rfl rfl rfl ?_)
                      refine gl_nil ?_
                      refine gk_seq ?_
                      refine gc_seq ?_
                      refine gc_seq ?_
                      refine gc_region ?_
                      refine gl_cons (gs_val (val_move rfl) rfl rfl rfl ?_)
                      refine gl_cons (gs_val (val_eql rfl rfl) rfl rfl rfl ?_)
                      refine gl_cons (gs_val (val_move rfl) rfl rfl rfl ?_)
                      refine gl_cons (gs_val (val_gtr rfl rfl) rfl rfl rfl ?_)
                      refine gl_cons (gs_val (val_cast (v := .bool false) (val_neqB kun4 rfl rfl) (congrArg Value.bool (back_flip ok))) rfl rfl rfl ?_)
                      refine gl_nil ?_
                      refine gk_seq ?_
                      refine gc_false rfl ?_
                      refine gc_skip ?_
                      refine gk_seq ?_
                      refine gc_region ?_
                      refine gl_cons (gs_val (val_move rfl) rfl rfl rfl ?_)
                      refine gl_cons (gs_val (val_move rfl) rfl rfl rfl ?_)
                      refine gl_cons (gs_val (val_subI rfl rfl (by omega)) rfl rfl rfl ?_)
                      refine gl_cons (gs_val (val_assign rfl) rfl rfl rfl ?_)
                      refine gl_nil ?_
                      refine gk_block ?_
                      refine gk_seq ?_
                      refine gc_seq ?_
                      refine gc_region ?_
                      refine gl_cons (gs_val (val_move rfl) rfl rfl rfl ?_)
                      refine gl_cons (gs_turns (enters kcall22 (.cons rfl .nil)) (heldK_spec b s2 L2 hb2 ok2) rfl rfl rfl (by first | exact .app | exact (.tail .app)) (fun _ _ => trivial) (fun _ _ => ?_))
                      refine gl_cons (gs_val (val_move rfl) rfl rfl rfl ?_)
                      refine gl_cons (gs_val (val_no (val_neq rfl rfl) (by omega)) rfl rfl rfl ?_)
                      refine gl_cons (gs_val (val_move rfl) rfl rfl rfl ?_)
                      refine gl_cons (gs_val (val_move rfl) rfl rfl rfl ?_)
                      refine gl_cons (gs_turns (enters kcall29 (.cons rfl .nil)) (potK_spec b s2 L2 hb2 ok2) rfl rfl rfl .app (fun _ _ => trivial) (fun _ _ => ?_))
                      refine gl_cons (gs_val (val_move rfl) rfl rfl rfl ?_)
                      refine gl_cons (gs_val (val_no (val_gtr rfl rfl) (by omega)) rfl rfl rfl ?_)
                      refine gl_cons (gs_val (val_pick_f rfl rfl) rfl rfl rfl ?_)
                      refine gl_cons (gs_val (val_move rfl) rfl rfl rfl ?_)
                      refine gl_cons (gs_val (val_move rfl) rfl rfl rfl ?_)
                      refine gl_cons (gs_turns (enters kcall29 (.cons rfl .nil)) (potK_spec b s2 L2 hb2 ok2) rfl rfl rfl .app (fun _ _ => trivial) (fun _ _ => ?_))
                      refine gl_cons (gs_val (val_no (val_lss rfl rfl) (by omega)) rfl rfl rfl ?_)
                      refine gl_cons (gs_val (val_pick_f rfl rfl) rfl rfl rfl ?_)
                      refine gl_nil ?_
                      refine gk_seq ?_
                      refine gc_false rfl ?_
                      refine gc_skip ?_
                      refine gk_block ?_
                      refine gk_seq ?_
                      refine gc_region ?_
                      refine gl_cons (gs_val (val_move rfl) rfl rfl rfl ?_)
                      refine gl_cons (gs_val (val_addI rfl rfl (by omega)) rfl rfl rfl ?_)
                      refine gl_cons (gs_val (val_assign rfl) rfl rfl rfl ?_)
                      refine gl_nil ?_
                      refine gk_again (i + 1, s2, L2) ?_ ?_ ?_ ?_
                      · exact ⟨by show i + 1 ≤ k; omega, hb2, ok2⟩
                      · show k - (i + 1) < k - i; omega
                      · refine .cons rfl (.cons (congrArg (fun z => some (I64 z)) (by show _ = heldS s2; omega)) ?_); repeat (first | exact .nil | refine .cons rfl ?_)
                      · first | exact fun _ h => h.sub (List.Sublist.append_left (List.nil_sublist _) L2) | exact fun _ h => h.sub (.cons _ (List.Sublist.append_left (List.nil_sublist _) L2))
                    · obtain ⟨s2, rfl⟩ : ∃ z, z = s := ⟨_, rfl⟩
                      obtain ⟨L2, rfl⟩ : ∃ z, z = Lb := ⟨_, rfl⟩
                      have hb2 := hb
                      have ok2 := ok
                      have hh2 := held_bound ok2
                      refine gc_skip ?_
                      refine gk_block ?_
                      refine gk_seq ?_
                      refine gc_seq ?_
                      refine gc_region ?_
                      refine gl_cons (gs_val (val_move rfl) rfl rfl rfl ?_)
                      refine gl_cons (gs_turns (enters kcall22 (.cons rfl .nil)) (heldK_spec b s2 L2 hb2 ok2) rfl rfl rfl (by first | exact .app | exact (.tail .app)) (fun _ _ => trivial) (fun _ _ => ?_))
                      refine gl_cons (gs_val (val_move rfl) rfl rfl rfl ?_)
                      refine gl_cons (gs_val (val_no (val_neq rfl rfl) (by omega)) rfl rfl rfl ?_)
                      refine gl_cons (gs_val (val_move rfl) rfl rfl rfl ?_)
                      refine gl_cons (gs_val (val_move rfl) rfl rfl rfl ?_)
                      refine gl_cons (gs_turns (enters kcall29 (.cons rfl .nil)) (potK_spec b s2 L2 hb2 ok2) rfl rfl rfl .app (fun _ _ => trivial) (fun _ _ => ?_))
                      refine gl_cons (gs_val (val_move rfl) rfl rfl rfl ?_)
                      refine gl_cons (gs_val (val_no (val_gtr rfl rfl) (by omega)) rfl rfl rfl ?_)
                      refine gl_cons (gs_val (val_pick_f rfl rfl) rfl rfl rfl ?_)
                      refine gl_cons (gs_val (val_move rfl) rfl rfl rfl ?_)
                      refine gl_cons (gs_val (val_move rfl) rfl rfl rfl ?_)
                      refine gl_cons (gs_turns (enters kcall29 (.cons rfl .nil)) (potK_spec b s2 L2 hb2 ok2) rfl rfl rfl .app (fun _ _ => trivial) (fun _ _ => ?_))
                      refine gl_cons (gs_val (val_no (val_lss rfl rfl) (by omega)) rfl rfl rfl ?_)
                      refine gl_cons (gs_val (val_pick_f rfl rfl) rfl rfl rfl ?_)
                      refine gl_nil ?_
                      refine gk_seq ?_
                      refine gc_false rfl ?_
                      refine gc_skip ?_
                      refine gk_block ?_
                      refine gk_seq ?_
                      refine gc_region ?_
                      refine gl_cons (gs_val (val_move rfl) rfl rfl rfl ?_)
                      refine gl_cons (gs_val (val_addI rfl rfl (by omega)) rfl rfl rfl ?_)
                      refine gl_cons (gs_val (val_assign rfl) rfl rfl rfl ?_)
                      refine gl_nil ?_
                      refine gk_again (i + 1, s2, L2) ?_ ?_ ?_ ?_
                      · exact ⟨by show i + 1 ≤ k; omega, hb2, ok2⟩
                      · show k - (i + 1) < k - i; omega
                      · refine .cons rfl (.cons (congrArg (fun z => some (I64 z)) (by show _ = heldS s2; omega)) ?_); repeat (first | exact .nil | refine .cons rfl ?_)
                      · first | exact fun _ h => h.sub (List.Sublist.append_left (List.nil_sublist _) L2) | exact fun _ h => h.sub (.cons _ (List.Sublist.append_left (List.nil_sublist _) L2))
            · skip
              refine gl_cons (gs_skip rfl rfl rfl ?_)
              refine gl_cons (gs_skip rfl rfl rfl ?_)
              refine gl_cons (gs_skip rfl rfl rfl ?_)
              refine gl_cons (gs_skip rfl rfl rfl ?_)
              refine gl_cons (gs_skip rfl rfl rfl ?_)
              refine gl_cons (gs_skip rfl rfl rfl ?_)
              refine gl_cons (gs_val (val_pick_f rfl rfl) rfl rfl rfl ?_)
              refine gl_nil ?_
              refine gk_seq ?_
              refine gc_false rfl ?_
              refine gc_skip ?_
              refine gk_seq ?_
              refine gc_seq ?_
              refine gc_seq ?_
              refine gc_region ?_
              refine gl_cons (gs_val (val_fieldAddr kfo35_0 rfl) rfl rfl rfl ?_)
              refine gl_cons (gs_val (val_load1 kag3 rfl (sees_mem (by repeat (first | exact .head _ | refine .tail _ ?_ | refine List.mem_append_right _ ?_))) rfl) rfl rfl rfl ?_)
              refine gl_nil ?_
              refine gk_seq ?_
              refine gc_block ?_
              refine gc_seq ?_
              refine gc_region ?_
              refine gl_cons (gs_val (val_eql rfl rfl) rfl rfl rfl ?_)
              refine gl_cons (gs_val (val_assign rfl) rfl rfl rfl ?_)
              refine gl_nil ?_
              refine gk_seq ?_
              refine gc_if rfl (fun hk0 => ?_) (fun hk0 => ?_)
              · skip
                refine ga_start (m := 8) (ls := [false, false, false, false, false, false, false, false]) kmixed rfl rfl ?_
                apply share3 (α := Option Addr) (β := Nat) (γ := List Ent) (m' := 1) (ls' := [true, true, true, true, true, true, true, false])
                · intro hD0
                  apply share0  (m' := 2) (ls' := [true, true, true, true, true, true, false, false])
                  · intro hD1
                    apply share0  (m' := 3) (ls' := [true, true, true, true, true, false, false, false])
                    · intro hD2
                      refine ga_take (i := 0) (ls' := [true, false, false, false, false, false, false, false]) rfl (by kernel_rfl) rfl (fun _ _ _ => val_move rfl) rfl rfl rfl ?_
                      refine ga_take (i := 1) (ls' := [true, true, false, false, false, false, false, false]) rfl (by kernel_rfl) rfl (fun _ _ _ => val_fieldAddr kfo35_1 rfl) rfl rfl rfl ?_
                      refine ga_take (i := 3) (ls' := [true, true, false, true, false, false, false, false]) rfl (by kernel_rfl) rfl (fun _ _ _ => val_fieldAddr kfo35_4 rfl) rfl rfl rfl ?_
                      refine ga_branch (rs := [2, 4]) (by kernel_rfl) rfl (.cons (ls' := [true, true, true, true, false, false, false, false]) rfl rfl ?_ (.cons (ls' := [true, true, false, true, true, false, false, false]) rfl rfl ?_ .nil))
                      · skip
                        refine gs_val (val_load1 kag3 rfl (sees_mem (by repeat (first | exact .head _ | refine .tail _ ?_ | refine List.mem_append_right _ ?_))) rfl) rfl rfl rfl ?_
                        refine ga_branch (rs := [4]) (by kernel_rfl) rfl (.cons (ls' := [true, true, true, true, true, false, false, false]) rfl rfl ?_ .nil)
                        refine gs_val (val_loadA (ds := raL al[i].t al[i].num (.slice al[i].ra al[i].n al[i].c) al[i].un) kag33 rfl (sees_mem (by repeat (first | exact .head _ | refine .tail _ ?_ | refine List.mem_append_right _ ?_))) rfl rfl) rfl rfl rfl ?_
                        refine gx_env (F := [(1, _), (5, _), (7, _), (8, _), (9, _), (10, _), (12, _), (13, _), (35, _), (36, _), (37, _), (38, _), (39, _), (40, _), (41, _), (42, _), (45, _), (46, _), (47, _), (48, _), (49, _), (50, _), (51, _), (52, _), (53, _), (54, _), (55, _), (56, _), (57, _), (58, _), (59, _), (60, _), (61, _), (62, _), (63, _), (64, _), (65, _), (66, _), (67, _), (68, _), (69, _), (70, _), (71, _), (72, _), (73, _), (74, _), (81, _), (82, _), (83, _), (84, _), (85, _), (86, _), (87, _), (88, _), (89, _)]) (.cons rfl (.cons rfl (.cons rfl (.cons rfl (.cons rfl (.cons rfl (.cons rfl (.cons rfl (.cons rfl (.cons rfl (.cons rfl (.cons rfl (.cons rfl (.cons rfl (.cons rfl (.cons rfl (.cons rfl (.cons rfl (.cons rfl (.cons rfl (.cons rfl (.cons rfl (.cons rfl (.cons rfl (.cons rfl (.cons rfl (.cons rfl (.cons rfl (.cons rfl (.cons rfl (.cons rfl (.cons rfl (.cons rfl (.cons rfl (.cons rfl (.cons rfl (.cons rfl (.cons rfl (.cons rfl (.cons rfl (.cons rfl (.cons rfl (.cons rfl (.cons rfl (.cons rfl (.cons rfl (.cons rfl (.cons rfl (.cons rfl (.cons rfl (.cons rfl (.cons rfl (.cons rfl (.cons rfl (.cons rfl .nil))))))))))))))))))))))))))))))))))))))))))))))))))))))) (gx_perm (by first | exact .refl _ | (repeat (first | exact .refl _ | refine perm_take (by first | exact .head | exact .tail .head | exact .tail (.tail .head) | exact .tail (.tail (.tail .head)) | exact .tail (.tail (.tail (.tail .head))) | exact .tail (.tail (.tail (.tail (.tail .head))))) ?_ | refine perm_takeL (by repeat (first | exact .app | exact .here | apply TakeL.tail | apply TakeL.appr)) ?_ | refine perm_takeX (by repeat (first | exact .cons .head .nil | apply TakeL.tail | apply TakeL.appr)) ?_))) (hD2  True.intro))
                      · skip
                        refine gs_val (val_loadA (ds := raL al[i].t al[i].num (.slice al[i].ra al[i].n al[i].c) al[i].un) kag33 rfl (sees_mem (by repeat (first | exact .head _ | refine .tail _ ?_ | refine List.mem_append_right _ ?_))) rfl rfl) rfl rfl rfl ?_
                        refine ga_branch (rs := [2, 5]) (by kernel_rfl) rfl (.cons (ls' := [true, true, true, true, true, false, false, false]) rfl rfl ?_ (.cons (ls' := [true, true, false, true, true, true, false, false]) rfl rfl ?_ .nil))
                        · skip
                          refine gs_val (val_load1 kag3 rfl (sees_mem (by repeat (first | exact .head _ | refine .tail _ ?_ | refine List.mem_append_right _ ?_))) rfl) rfl rfl rfl ?_
                          refine gx_env (F := [(1, _), (5, _), (7, _), (8, _), (9, _), (10, _), (12, _), (13, _), (35, _), (36, _), (37, _), (38, _), (39, _), (40, _), (41, _), (42, _), (45, _), (46, _), (47, _), (48, _), (49, _), (50, _), (51, _), (52, _), (53, _), (54, _), (55, _), (56, _), (57, _), (58, _), (59, _), (60, _), (61, _), (62, _), (63, _), (64, _), (65, _), (66, _), (67, _), (68, _), (69, _), (70, _), (71, _), (72, _), (73, _), (74, _), (81, _), (82, _), (83, _), (84, _), (85, _), (86, _), (87, _), (88, _), (89, _)]) (.cons rfl (.cons rfl (.cons rfl (.cons rfl (.cons rfl (.cons rfl (.cons rfl (.cons rfl (.cons rfl (.cons rfl (.cons rfl (.cons rfl (.cons rfl (.cons rfl (.cons rfl (.cons rfl (.cons rfl (.cons rfl (.cons rfl (.cons rfl (.cons rfl (.cons rfl (.cons rfl (.cons rfl (.cons rfl (.cons rfl (.cons rfl (.cons rfl (.cons rfl (.cons rfl (.cons rfl (.cons rfl (.cons rfl (.cons rfl (.cons rfl (.cons rfl (.cons rfl (.cons rfl (.cons rfl (.cons rfl (.cons rfl (.cons rfl (.cons rfl (.cons rfl (.cons rfl (.cons rfl (.cons rfl (.cons rfl (.cons rfl (.cons rfl (.cons rfl (.cons rfl (.cons rfl (.cons rfl (.cons rfl .nil))))))))))))))))))))))))))))))))))))))))))))))))))))))) (gx_perm (by first | exact .refl _ | (repeat (first | exact .refl _ | refine perm_take (by first | exact .head | exact .tail .head | exact .tail (.tail .head) | exact .tail (.tail (.tail .head)) | exact .tail (.tail (.tail (.tail .head))) | exact .tail (.tail (.tail (.tail (.tail .head))))) ?_ | refine perm_takeL (by repeat (first | exact .app | exact .here | apply TakeL.tail | apply TakeL.appr)) ?_ | refine perm_takeX (by repeat (first | exact .cons .head .nil | apply TakeL.tail | apply TakeL.appr)) ?_))) (hD2  True.intro))
                        · skip
                          refine gs_pure (enters kcall26 (.cons rfl .nil)) (of_spec al[i].t al[i].num al[i].un al[i].ra al[i].n al[i].c (min al[i].n 10) rfl (hal _ (List.getElem_mem hil)).2.1) rfl rfl rfl (fun _ _ => trivial) ?_
                          refine ga_branch (rs := [2, 6]) (by kernel_rfl) rfl (.cons (ls' := [true, true, true, true, true, true, false, false]) rfl rfl ?_ (.cons (ls' := [true, true, false, true, true, true, true, false]) rfl rfl ?_ .nil))
                          · skip
                            refine gs_val (val_load1 kag3 rfl (sees_mem (by repeat (first | exact .head _ | refine .tail _ ?_ | refine List.mem_append_right _ ?_))) rfl) rfl rfl rfl ?_
                            refine gx_env (F := [(1, _), (5, _), (7, _), (8, _), (9, _), (10, _), (12, _), (13, _), (35, _), (36, _), (37, _), (38, _), (39, _), (40, _), (41, _), (42, _), (45, _), (46, _), (47, _), (48, _), (49, _), (50, _), (51, _), (52, _), (53, _), (54, _), (55, _), (56, _), (57, _), (58, _), (59, _), (60, _), (61, _), (62, _), (63, _), (64, _), (65, _), (66, _), (67, _), (68, _), (69, _), (70, _), (71, _), (72, _), (73, _), (74, _), (81, _), (82, _), (83, _), (84, _), (85, _), (86, _), (87, _), (88, _), (89, _), (90, _)]) (.cons rfl (.cons rfl (.cons rfl (.cons rfl (.cons rfl (.cons rfl (.cons rfl (.cons rfl (.cons rfl (.cons rfl (.cons rfl (.cons rfl (.cons rfl (.cons rfl (.cons rfl (.cons rfl (.cons rfl (.cons rfl (.cons rfl (.cons rfl (.cons rfl (.cons rfl (.cons rfl (.cons rfl (.cons rfl (.cons rfl (.cons rfl (.cons rfl (.cons rfl (.cons rfl (.cons rfl (.cons rfl (.cons rfl (.cons rfl (.cons rfl (.cons rfl (.cons rfl (.cons rfl (.cons rfl (.cons rfl (.cons rfl (.cons rfl (.cons rfl (.cons rfl (.cons rfl (.cons rfl (.cons rfl (.cons rfl (.cons rfl (.cons rfl (.cons rfl (.cons rfl (.cons rfl (.cons rfl (.cons rfl (.cons rfl .nil)))))))))))))))))))))))))))))))))))))))))))))))))))))))) (gx_perm (by first | exact .refl _ | (repeat (first | exact .refl _ | refine perm_take (by first | exact .head | exact .tail .head | exact .tail (.tail .head) | exact .tail (.tail (.tail .head)) | exact .tail (.tail (.tail (.tail .head))) | exact .tail (.tail (.tail (.tail (.tail .head))))) ?_ | refine perm_takeL (by repeat (first | exact .app | exact .here | apply TakeL.tail | apply TakeL.appr)) ?_ | refine perm_takeX (by repeat (first | exact .cons .head .nil | apply TakeL.tail | apply TakeL.appr)) ?_))) (hD1  True.intro))
                          · skip
                            refine gs_makes (enters kcall25 (.cons rfl .nil)) (to_spec al[i].t al[i].num al[i].un al[i].ra (min al[i].n 10) al[i].c (al[i].ad.take (min al[i].n 10)) (by rw [List.length_take, (hal _ (List.getElem_mem hil)).1]; omega) (by omega)) rfl rfl rfl (row_of_sees (((sees_row (hpre.2.2 _ (List.getElem_mem hil))).take (min al[i].n 10)).cast (ds := (al[i].ad.take (min al[i].n 10)).map I64) (by rw [List.map_take]))) (fun ⟨ta, tc, tN⟩ hto => ?_)
                            have hto : Own 3 1 ta (min al[i].n 10) tc ((al[i].ad.take (min al[i].n 10)).map I64) tN := hto
                            have hal1 := (hal _ (List.getElem_mem hil)).1
                            refine ga_branch (rs := [2]) (by kernel_rfl) rfl (.cons (ls' := [true, true, true, true, true, true, true, false]) rfl rfl ?_ .nil)
                            refine gs_val (val_load1 kag3 rfl (sees_mem (by repeat (first | exact .head _ | refine .tail _ ?_ | refine List.mem_append_right _ ?_))) rfl) rfl rfl rfl ?_
                            refine gx_env (F := [(1, _), (5, _), (7, _), (8, _), (9, _), (10, _), (12, _), (13, _), (35, _), (36, _), (37, _), (38, _), (39, _), (40, _), (41, _), (42, _), (45, _), (46, _), (47, _), (48, _), (49, _), (50, _), (51, _), (52, _), (53, _), (54, _), (55, _), (56, _), (57, _), (58, _), (59, _), (60, _), (61, _), (62, _), (63, _), (64, _), (65, _), (66, _), (67, _), (68, _), (69, _), (70, _), (71, _), (72, _), (73, _), (74, _), (81, _), (82, _), (83, _), (84, _), (85, _), (86, _), (87, _), (88, _), (89, _), (90, _), (91, _)]) (.cons rfl (.cons rfl (.cons rfl (.cons rfl (.cons rfl (.cons rfl (.cons rfl (.cons rfl (.cons rfl (.cons rfl (.cons rfl (.cons rfl (.cons rfl (.cons rfl (.cons rfl (.cons rfl (.cons rfl (.cons rfl (.cons rfl (.cons rfl (.cons rfl (.cons rfl (.cons rfl (.cons rfl (.cons rfl (.cons rfl (.cons rfl (.cons rfl (.cons rfl (.cons rfl (.cons rfl (.cons rfl (.cons rfl (.cons rfl (.cons rfl (.cons rfl (.cons rfl (.cons rfl (.cons rfl (.cons rfl (.cons rfl (.cons rfl (.cons rfl (.cons rfl (.cons rfl (.cons rfl (.cons rfl (.cons rfl (.cons rfl (.cons rfl (.cons rfl (.cons rfl (.cons rfl (.cons rfl (.cons rfl (.cons rfl (.cons rfl .nil))))))))))))))))))))))))))))))))))))))))))))))))))))))))) (gx_perm (by first | exact .refl _ | (repeat (first | exact .refl _ | refine perm_take (by first | exact .head | exact .tail .head | exact .tail (.tail .head) | exact .tail (.tail (.tail .head)) | exact .tail (.tail (.tail (.tail .head))) | exact .tail (.tail (.tail (.tail (.tail .head))))) ?_ | refine perm_takeL (by repeat (first | exact .app | exact .here | apply TakeL.tail | apply TakeL.appr)) ?_ | refine perm_takeX (by repeat (first | exact .cons .head .nil | apply TakeL.tail | apply TakeL.appr)) ?_))) (hD0 ta tc tN (And.intro hto True.intro)))
                    · rintro  _
                      refine ga_branch (rs := [5]) (by kernel_rfl) rfl (.cons (ls' := [true, true, true, true, true, true, false, false]) rfl rfl ?_ .nil)
                      refine gs_pure (enters kcall26 (.cons rfl .nil)) (of_spec al[i].t al[i].num al[i].un al[i].ra al[i].n al[i].c (min al[i].n 10) rfl (hal _ (List.getElem_mem hil)).2.1) rfl rfl rfl (fun _ _ => trivial) ?_
                      refine gx_env (F := [(1, _), (5, _), (7, _), (8, _), (9, _), (10, _), (12, _), (13, _), (35, _), (36, _), (37, _), (38, _), (39, _), (40, _), (41, _), (42, _), (45, _), (46, _), (47, _), (48, _), (49, _), (50, _), (51, _), (52, _), (53, _), (54, _), (55, _), (56, _), (57, _), (58, _), (59, _), (60, _), (61, _), (62, _), (63, _), (64, _), (65, _), (66, _), (67, _), (68, _), (69, _), (70, _), (71, _), (72, _), (73, _), (74, _), (81, _), (82, _), (83, _), (84, _), (85, _), (86, _), (87, _), (88, _), (89, _), (90, _)]) (.cons rfl (.cons rfl (.cons rfl (.cons rfl (.cons rfl (.cons rfl (.cons rfl (.cons rfl (.cons rfl (.cons rfl (.cons rfl (.cons rfl (.cons rfl (.cons rfl (.cons rfl (.cons rfl (.cons rfl (.cons rfl (.cons rfl (.cons rfl (.cons rfl (.cons rfl (.cons rfl (.cons rfl (.cons rfl (.cons rfl (.cons rfl (.cons rfl (.cons rfl (.cons rfl (.cons rfl (.cons rfl (.cons rfl (.cons rfl (.cons rfl (.cons rfl (.cons rfl (.cons rfl (.cons rfl (.cons rfl (.cons rfl (.cons rfl (.cons rfl (.cons rfl (.cons rfl (.cons rfl (.cons rfl (.cons rfl (.cons rfl (.cons rfl (.cons rfl (.cons rfl (.cons rfl (.cons rfl (.cons rfl (.cons rfl .nil)))))))))))))))))))))))))))))))))))))))))))))))))))))))) (gx_perm (by first | exact .refl _ | (repeat (first | exact .refl _ | refine perm_take (by first | exact .head | exact .tail .head | exact .tail (.tail .head) | exact .tail (.tail (.tail .head)) | exact .tail (.tail (.tail (.tail .head))) | exact .tail (.tail (.tail (.tail (.tail .head))))) ?_ | refine perm_takeL (by repeat (first | exact .app | exact .here | apply TakeL.tail | apply TakeL.appr)) ?_ | refine perm_takeX (by repeat (first | exact .cons .head .nil | apply TakeL.tail | apply TakeL.appr)) ?_))) (hD1  True.intro))
                  · rintro  _
                    refine ga_branch (rs := [6]) (by kernel_rfl) rfl (.cons (ls' := [true, true, true, true, true, true, true, false]) rfl rfl ?_ .nil)
                    refine gs_makes (enters kcall25 (.cons rfl .nil)) (to_spec al[i].t al[i].num al[i].un al[i].ra (min al[i].n 10) al[i].c (al[i].ad.take (min al[i].n 10)) (by rw [List.length_take, (hal _ (List.getElem_mem hil)).1]; omega) (by omega)) rfl rfl rfl (row_of_sees (((sees_row (hpre.2.2 _ (List.getElem_mem hil))).take (min al[i].n 10)).cast (ds := (al[i].ad.take (min al[i].n 10)).map I64) (by rw [List.map_take]))) (fun ⟨ta, tc, tN⟩ hto => ?_)
                    have hto : Own 3 1 ta (min al[i].n 10) tc ((al[i].ad.take (min al[i].n 10)).map I64) tN := hto
                    have hal1 := (hal _ (List.getElem_mem hil)).1
                    refine gx_env (F := [(1, _), (5, _), (7, _), (8, _), (9, _), (10, _), (12, _), (13, _), (35, _), (36, _), (37, _), (38, _), (39, _), (40, _), (41, _), (42, _), (45, _), (46, _), (47, _), (48, _), (49, _), (50, _), (51, _), (52, _), (53, _), (54, _), (55, _), (56, _), (57, _), (58, _), (59, _), (60, _), (61, _), (62, _), (63, _), (64, _), (65, _), (66, _), (67, _), (68, _), (69, _), (70, _), (71, _), (72, _), (73, _), (74, _), (81, _), (82, _), (83, _), (84, _), (85, _), (86, _), (87, _), (88, _), (89, _), (90, _), (91, _)]) (.cons rfl (.cons rfl (.cons rfl (.cons rfl (.cons rfl (.cons rfl (.cons rfl (.cons rfl (.cons rfl (.cons rfl (.cons rfl (.cons rfl (.cons rfl (.cons rfl (.cons rfl (.cons rfl (.cons rfl (.cons rfl (.cons rfl (.cons rfl (.cons rfl (.cons rfl (.cons rfl (.cons rfl (.cons rfl (.cons rfl (.cons rfl (.cons rfl (.cons rfl (.cons rfl (.cons rfl (.cons rfl (.cons rfl (.cons rfl (.cons rfl (.cons rfl (.cons rfl (.cons rfl (.cons rfl (.cons rfl (.cons rfl (.cons rfl (.cons rfl (.cons rfl (.cons rfl (.cons rfl (.cons rfl (.cons rfl (.cons rfl (.cons rfl (.cons rfl (.cons rfl (.cons rfl (.cons rfl (.cons rfl (.cons rfl (.cons rfl .nil))))))))))))))))))))))))))))))))))))))))))))))))))))))))) (gx_perm (by first | exact .refl _ | (repeat (first | exact .refl _ | refine perm_take (by first | exact .head | exact .tail .head | exact .tail (.tail .head) | exact .tail (.tail (.tail .head)) | exact .tail (.tail (.tail (.tail .head))) | exact .tail (.tail (.tail (.tail (.tail .head))))) ?_ | refine perm_takeL (by repeat (first | exact .app | exact .here | apply TakeL.tail | apply TakeL.appr)) ?_ | refine perm_takeX (by repeat (first | exact .cons .head .nil | apply TakeL.tail | apply TakeL.appr)) ?_))) (hD0 ta tc tN (And.intro hto True.intro)))
                · rintro ta tc tN ⟨hto, _⟩
                  refine ga_branch (rs := [7]) (by kernel_rfl) rfl (.cons (ls' := [true, true, true, true, true, true, true, true]) rfl rfl ?_ .nil)
                  refine gs_turns (enters kcall24 (.cons rfl (.cons rfl (.cons rfl .nil)))) ((by have h9 := askK_spec b s Lb hb ok al[i].h al[i].t al[i].num al[i].un ta tc (al[i].ad.take (min al[i].n 10)) (by rw [List.length_take]; omega); rw [show (al[i].ad.take (min al[i].n 10)).length = min al[i].n 10 by rw [List.length_take, (hal _ (List.getElem_mem hil)).1]; omega] at h9; exact h9)) rfl rfl rfl (.appr (.tail .app)) (row_of_ownL hto (.appr (.tail .app)) .app) (fun L2 hb2 => ?_)
                  have hb2 : BK 154 157 3 4 b (askS s al[i].h al[i].t al[i].num al[i].un (al[i].ad.take (min al[i].n 10))) L2 := hb2
                  have ok2 := askS_ok (now := al[i].h) (rt := al[i].t) (rn := al[i].num) (ru := al[i].un) (rad := (al[i].ad.take (min al[i].n 10))) ok
                  have e2 : heldS (askS s al[i].h al[i].t al[i].num al[i].un (al[i].ad.take (min al[i].n 10))) = heldS s := held_ask
                  obtain ⟨s2, hs2⟩ : ∃ z, askS s al[i].h al[i].t al[i].num al[i].un (al[i].ad.take (min al[i].n 10)) = z := ⟨_, rfl⟩
                  rw [hs2] at hb2 ok2 e2
                  have hh2 := held_bound ok2
                  refine ga_done (by kernel_rfl) ?_
                  refine gk_block ?_
                  refine gk_seq ?_
                  refine gc_seq ?_
                  refine gc_region ?_
                  refine gl_cons (gs_val (val_move rfl) rfl rfl rfl ?_)
                  refine gl_cons (gs_turns (enters kcall22 (.cons rfl .nil)) (heldK_spec b s2 L2 hb2 ok2) rfl rfl rfl (by first | exact .app | exact (.tail .app)) (fun _ _ => trivial) (fun _ _ => ?_))
                  refine gl_cons (gs_val (val_move rfl) rfl rfl rfl ?_)
                  refine gl_cons (gs_val (val_no (val_neq rfl rfl) (by omega)) rfl rfl rfl ?_)
                  refine gl_cons (gs_val (val_move rfl) rfl rfl rfl ?_)
                  refine gl_cons (gs_val (val_move rfl) rfl rfl rfl ?_)
                  refine gl_cons (gs_turns (enters kcall29 (.cons rfl .nil)) (potK_spec b s2 L2 hb2 ok2) rfl rfl rfl .app (fun _ _ => trivial) (fun _ _ => ?_))
                  refine gl_cons (gs_val (val_move rfl) rfl rfl rfl ?_)
                  refine gl_cons (gs_val (val_no (val_gtr rfl rfl) (by omega)) rfl rfl rfl ?_)
                  refine gl_cons (gs_val (val_pick_f rfl rfl) rfl rfl rfl ?_)
                  refine gl_cons (gs_val (val_move rfl) rfl rfl rfl ?_)
                  refine gl_cons (gs_val (val_move rfl) rfl rfl rfl ?_)
                  refine gl_cons (gs_turns (enters kcall29 (.cons rfl .nil)) (potK_spec b s2 L2 hb2 ok2) rfl rfl rfl .app (fun _ _ => trivial) (fun _ _ => ?_))
                  refine gl_cons (gs_val (val_no (val_lss rfl rfl) (by omega)) rfl rfl rfl ?_)
                  refine gl_cons (gs_val (val_pick_f rfl rfl) rfl rfl rfl ?_)
                  refine gl_nil ?_
                  refine gk_seq ?_
                  refine gc_false rfl ?_
                  refine gc_skip ?_
                  refine gk_block ?_
                  refine gk_seq ?_
                  refine gc_region ?_
                  refine gl_cons (gs_val (val_move rfl) rfl rfl rfl ?_)
                  refine gl_cons (gs_val (val_addI rfl rfl (by omega)) rfl rfl rfl ?_)
                  refine gl_cons (gs_val (val_assign rfl) rfl rfl rfl ?_)
                  refine gl_nil ?_
                  refine gk_again (i + 1, s2, L2) ?_ ?_ ?_ ?_
                  · exact ⟨by show i + 1 ≤ k; omega, hb2, ok2⟩
                  · show k - (i + 1) < k - i; omega
                  · refine .cons rfl (.cons (congrArg (fun z => some (I64 z)) (by show _ = heldS s2; omega)) ?_); repeat (first | exact .nil | refine .cons rfl ?_)
                  · first | exact fun _ h => h.sub (List.Sublist.append_left (List.nil_sublist _) L2) | exact fun _ h => h.sub (.cons _ (List.Sublist.append_left (List.nil_sublist _) L2))
              · skip
                refine gc_seq ?_
                refine gc_region ?_
                refine gl_cons (gs_val (val_eql rfl rfl) rfl rfl rfl ?_)
                refine gl_cons (gs_val (val_assign rfl) rfl rfl rfl ?_)
                refine gl_nil ?_
                refine gk_seq ?_
                refine gc_if rfl (fun hk1 => ?_) (fun hk1 => ?_)
                · skip
                  refine gc_seq ?_
                  refine gc_region ?_
                  refine gl_cons (gs_val (val_move rfl) rfl rfl rfl ?_)
                  refine gl_cons (gs_val (val_fieldAddr kfo35_1 rfl) rfl rfl rfl ?_)
                  refine gl_cons (gs_val (val_load1 kag3 rfl (sees_mem (by repeat (first | exact .head _ | refine .tail _ ?_ | refine List.mem_append_right _ ?_))) rfl) rfl rfl rfl ?_)
                  refine gl_cons (gs_val (val_fieldAddr kfo35_2 rfl) rfl rfl rfl ?_)
                  refine gl_cons (gs_val (val_load1 kag3 rfl (sees_mem (by repeat (first | exact .head _ | refine .tail _ ?_ | refine List.mem_append_right _ ?_))) rfl) rfl rfl rfl ?_)
                  refine gl_cons (gs_val (val_move rfl) rfl rfl rfl ?_)
                  refine gl_cons (gs_turns (enters kcall27 (.cons rfl (.cons rfl (.cons rfl (.cons rfl .nil))))) (putK_spec b s Lb hb ok al[i].h al[i].s al[i].m) rfl rfl rfl (.tail .app) (fun _ _ => trivial) (fun L2 hb2 => ?_))
                  have hb2 : BK 154 157 3 4 b (putS s al[i].h al[i].s al[i].m) L2 := hb2
                  have hp2 := held_put (now := al[i].h) (seat := al[i].s) (amt := al[i].m) ok
                  have ok2 := putS_ok (now := al[i].h) (seat := al[i].s) (amt := al[i].m) ok
                  obtain ⟨pe, hpe⟩ : ∃ z, putE s al[i].h al[i].s al[i].m = z := ⟨_, rfl⟩
                  obtain ⟨s2, hs2⟩ : ∃ z, putS s al[i].h al[i].s al[i].m = z := ⟨_, rfl⟩
                  rw [hs2] at hb2 ok2 hp2
                  rw [hpe] at hp2 ⊢
                  have hh2 := held_bound ok2
                  refine gl_cons (gs_val (val_eql rfl rfl) rfl rfl rfl ?_)
                  refine gl_nil ?_
                  refine gk_seq ?_
                  refine gc_if rfl (fun h102 => ?_) (fun h102 => ?_)
                  · have e2 := hp2.1 h102
                    refine gc_region ?_
                    refine gl_cons (gs_val (val_move rfl) rfl rfl rfl ?_)
                    refine gl_cons (gs_val (val_move rfl) rfl rfl rfl ?_)
                    refine gl_cons (gs_val (val_addI rfl rfl (by omega)) rfl rfl rfl ?_)
                    refine gl_cons (gs_val (val_assign rfl) rfl rfl rfl ?_)
                    refine gl_nil ?_
                    refine gk_block ?_
                    refine gk_seq ?_
                    refine gc_seq ?_
                    refine gc_region ?_
                    refine gl_cons (gs_val (val_move rfl) rfl rfl rfl ?_)
                    refine gl_cons (gs_turns (enters kcall22 (.cons rfl .nil)) (heldK_spec b s2 L2 hb2 ok2) rfl rfl rfl (by first | exact .app | exact (.tail .app)) (fun _ _ => trivial) (fun _ _ => ?_))
                    refine gl_cons (gs_val (val_move rfl) rfl rfl rfl ?_)
                    refine gl_cons (gs_val (val_no (val_neq rfl rfl) (by omega)) rfl rfl rfl ?_)
                    refine gl_cons (gs_val (val_move rfl) rfl rfl rfl ?_)
                    refine gl_cons (gs_val (val_move rfl) rfl rfl rfl ?_)
                    refine gl_cons (gs_turns (enters kcall29 (.cons rfl .nil)) (potK_spec b s2 L2 hb2 ok2) rfl rfl rfl .app (fun _ _ => trivial) (fun _ _ => ?_))
                    refine gl_cons (gs_val (val_move rfl) rfl rfl rfl ?_)
                    refine gl_cons (gs_val (val_no (val_gtr rfl rfl) (by omega)) rfl rfl rfl ?_)
                    refine gl_cons (gs_val (val_pick_f rfl rfl) rfl rfl rfl ?_)
                    refine gl_cons (gs_val (val_move rfl) rfl rfl rfl ?_)
                    refine gl_cons (gs_val (val_move rfl) rfl rfl rfl ?_)
                    refine gl_cons (gs_turns (enters kcall29 (.cons rfl .nil)) (potK_spec b s2 L2 hb2 ok2) rfl rfl rfl .app (fun _ _ => trivial) (fun _ _ => ?_))
                    refine gl_cons (gs_val (val_no (val_lss rfl rfl) (by omega)) rfl rfl rfl ?_)
                    refine gl_cons (gs_val (val_pick_f rfl rfl) rfl rfl rfl ?_)
                    refine gl_nil ?_
                    refine gk_seq ?_
                    refine gc_false rfl ?_
                    refine gc_skip ?_
                    refine gk_block ?_
                    refine gk_seq ?_
                    refine gc_region ?_
                    refine gl_cons (gs_val (val_move rfl) rfl rfl rfl ?_)
                    refine gl_cons (gs_val (val_addI rfl rfl (by omega)) rfl rfl rfl ?_)
                    refine gl_cons (gs_val (val_assign rfl) rfl rfl rfl ?_)
                    refine gl_nil ?_
                    refine gk_again (i + 1, s2, L2) ?_ ?_ ?_ ?_
                    · exact ⟨by show i + 1 ≤ k; omega, hb2, ok2⟩
                    · show k - (i + 1) < k - i; omega
                    · refine .cons rfl (.cons (congrArg (fun z => some (I64 z)) (by show _ = heldS s2; omega)) ?_); repeat (first | exact .nil | refine .cons rfl ?_)
                    · first | exact fun _ h => h.sub (List.Sublist.append_left (List.nil_sublist _) L2) | exact fun _ h => h.sub (.cons _ (List.Sublist.append_left (List.nil_sublist _) L2))
                  · have e2 : heldS s2 = heldS s := congrArg heldS (hp2.2 h102)
                    refine gc_skip ?_
                    refine gk_block ?_
                    refine gk_seq ?_
                    refine gc_seq ?_
                    refine gc_region ?_
                    refine gl_cons (gs_val (val_move rfl) rfl rfl rfl ?_)
                    refine gl_cons (gs_turns (enters kcall22 (.cons rfl .nil)) (heldK_spec b s2 L2 hb2 ok2) rfl rfl rfl (by first | exact .app | exact (.tail .app)) (fun _ _ => trivial) (fun _ _ => ?_))
                    refine gl_cons (gs_val (val_move rfl) rfl rfl rfl ?_)
                    refine gl_cons (gs_val (val_no (val_neq rfl rfl) (by omega)) rfl rfl rfl ?_)
                    refine gl_cons (gs_val (val_move rfl) rfl rfl rfl ?_)
                    refine gl_cons (gs_val (val_move rfl) rfl rfl rfl ?_)
                    refine gl_cons (gs_turns (enters kcall29 (.cons rfl .nil)) (potK_spec b s2 L2 hb2 ok2) rfl rfl rfl .app (fun _ _ => trivial) (fun _ _ => ?_))
                    refine gl_cons (gs_val (val_move rfl) rfl rfl rfl ?_)
                    refine gl_cons (gs_val (val_no (val_gtr rfl rfl) (by omega)) rfl rfl rfl ?_)
                    refine gl_cons (gs_val (val_pick_f rfl rfl) rfl rfl rfl ?_)
                    refine gl_cons (gs_val (val_move rfl) rfl rfl rfl ?_)
                    refine gl_cons (gs_val (val_move rfl) rfl rfl rfl ?_)
                    refine gl_cons (gs_turns (enters kcall29 (.cons rfl .nil)) (potK_spec b s2 L2 hb2 ok2) rfl rfl rfl .app (fun _ _ => trivial) (fun _ _ => ?_))
                    refine gl_cons (gs_val (val_no (val_lss rfl rfl) (by omega)) rfl rfl rfl ?_)
                    refine gl_cons (gs_val (val_pick_f rfl rfl) rfl rfl rfl ?_)
                    refine gl_nil ?_
                    refine gk_seq ?_
                    refine gc_false rfl ?_
                    refine gc_skip ?_
                    refine gk_block ?_
                    refine gk_seq ?_
                    refine gc_region ?_
                    refine gl_cons (gs_val (val_move rfl) rfl rfl rfl ?_)
                    refine gl_cons (gs_val (val_addI rfl rfl (by omega)) rfl rfl rfl ?_)
                    refine gl_cons (gs_val (val_assign rfl) rfl rfl rfl ?_)
                    refine gl_nil ?_
                    refine gk_again (i + 1, s2, L2) ?_ ?_ ?_ ?_
                    · exact ⟨by show i + 1 ≤ k; omega, hb2, ok2⟩
                    · show k - (i + 1) < k - i; omega
                    · refine .cons rfl (.cons (congrArg (fun z => some (I64 z)) (by show _ = heldS s2; omega)) ?_); repeat (first | exact .nil | refine .cons rfl ?_)
                    · first | exact fun _ h => h.sub (List.Sublist.append_left (List.nil_sublist _) L2) | exact fun _ h => h.sub (.cons _ (List.Sublist.append_left (List.nil_sublist _) L2))
                · skip
                  refine gc_seq ?_
                  refine gc_region ?_
                  refine gl_cons (gs_val (val_eql rfl rfl) rfl rfl rfl ?_)
                  refine gl_cons (gs_val (val_assign rfl) rfl rfl rfl ?_)
                  refine gl_nil ?_
                  refine gk_seq ?_
                  refine gc_if rfl (fun hk2 => ?_) (fun hk2 => ?_)
                  · skip
                    refine gc_seq ?_
                    refine gc_region ?_
                    refine gl_cons (gs_val (val_move rfl) rfl rfl rfl ?_)
                    refine gl_cons (gs_val (val_fieldAddr kfo35_1 rfl) rfl rfl rfl ?_)
                    refine gl_cons (gs_val (val_load1 kag3 rfl (sees_mem (by repeat (first | exact .head _ | refine .tail _ ?_ | refine List.mem_append_right _ ?_))) rfl) rfl rfl rfl ?_)
                    refine gl_cons (gs_val (val_fieldAddr kfo35_2 rfl) rfl rfl rfl ?_)
                    refine gl_cons (gs_val (val_load1 kag3 rfl (sees_mem (by repeat (first | exact .head _ | refine .tail _ ?_ | refine List.mem_append_right _ ?_))) rfl) rfl rfl rfl ?_)
                    refine gl_cons (gs_turns (enters kcall28 (.cons rfl (.cons rfl (.cons rfl .nil)))) (backK_spec b s Lb hb ok al[i].h al[i].s) rfl rfl rfl (.tail .app) (fun _ _ => trivial) (fun L2 hb2 => ?_))
                    have hb2 : BK 154 157 3 4 b (backS s al[i].h al[i].s) L2 := hb2
                    have hbk := held_back (now := al[i].h) (seat := al[i].s) ok
                    have ok2 := backS_ok (now := al[i].h) (seat := al[i].s) ok
                    obtain ⟨s2, hs2⟩ : ∃ z, backS s al[i].h al[i].s = z := ⟨_, rfl⟩
                    have e2 := hbk.1
                    rw [hs2] at hb2 ok2 e2
                    refine gl_cons (gs_val (val_move rfl) rfl rfl rfl ?_)
                    have hh2 := held_bound ok2
                    refine gl_cons (gs_val (val_extract rfl rfl) rfl rfl rfl ?_)
                    refine gl_cons (gs_val (val_extract rfl rfl) rfl rfl rfl ?_)
                    refine gl_cons (gs_val (val_assign rfl) rfl rfl rfl ?_)
                    refine gl_cons (gs_val (val_assign rfl) rfl rfl rfl ?_)
                    refine gl_nil ?_
                    refine gk_seq ?_
                    refine gc_seq ?_
                    refine gc_seq ?_
                    refine gc_region ?_
                    refine gl_cons (gs_val (val_move rfl) rfl rfl rfl ?_)
                    refine gl_cons (gs_val (val_eql rfl rfl) rfl rfl rfl ?_)
                    refine gl_cons (gs_val (val_move rfl) rfl rfl rfl ?_)
                    refine gl_cons (gs_val (val_gtr rfl rfl) rfl rfl rfl ?_)
                    refine gl_cons (gs_val (val_cast (v := .bool false) (val_neqB kun4 rfl rfl) (congrArg Value.bool (back_flip ok))) rfl rfl rfl ?_)
                    refine gl_nil ?_
                    refine gk_seq ?_
                    refine gc_false rfl ?_
                    refine gc_skip ?_
                    refine gk_seq ?_
                    refine gc_region ?_
                    refine gl_cons (gs_val (val_move rfl) rfl rfl rfl ?_)
                    refine gl_cons (gs_val (val_move rfl) rfl rfl rfl ?_)
                    refine gl_cons (gs_val (val_subI rfl rfl (by omega)) rfl rfl rfl ?_)
                    refine gl_cons (gs_val (val_assign rfl) rfl rfl rfl ?_)
                    refine gl_nil ?_
                    refine gk_block ?_
                    refine gk_seq ?_
                    refine gc_seq ?_
                    refine gc_region ?_
                    refine gl_cons (gs_val (val_move rfl) rfl rfl rfl ?_)
                    refine gl_cons (gs_turns (enters kcall22 (.cons rfl .nil)) (heldK_spec b s2 L2 hb2 ok2) rfl rfl rfl (by first | exact .app | exact (.tail .app)) (fun _ _ => trivial) (fun _ _ => ?_))
                    refine gl_cons (gs_val (val_move rfl) rfl rfl rfl ?_)
                    refine gl_cons (gs_val (val_no (val_neq rfl rfl) (by omega)) rfl rfl rfl ?_)
                    refine gl_cons (gs_val (val_move rfl) rfl rfl rfl ?_)
                    refine gl_cons (gs_val (val_move rfl) rfl rfl rfl ?_)
                    refine gl_cons (gs_turns (enters kcall29 (.cons rfl .nil)) (potK_spec b s2 L2 hb2 ok2) rfl rfl rfl .app (fun _ _ => trivial) (fun _ _ => ?_))
                    refine gl_cons (gs_val (val_move rfl) rfl rfl rfl ?_)
                    refine gl_cons (gs_val (val_no (val_gtr rfl rfl) (by omega)) rfl rfl rfl ?_)
                    refine gl_cons (gs_val (val_pick_f rfl rfl) rfl rfl rfl ?_)
                    refine gl_cons (gs_val (val_move rfl) rfl rfl rfl ?_)
                    refine gl_cons (gs_val (val_move rfl) rfl rfl rfl ?_)
                    refine gl_cons (gs_turns (enters kcall29 (.cons rfl .nil)) (potK_spec b s2 L2 hb2 ok2) rfl rfl rfl .app (fun _ _ => trivial) (fun _ _ => ?_))
                    refine gl_cons (gs_val (val_no (val_lss rfl rfl) (by omega)) rfl rfl rfl ?_)
                    refine gl_cons (gs_val (val_pick_f rfl rfl) rfl rfl rfl ?_)
                    refine gl_nil ?_
                    refine gk_seq ?_
                    refine gc_false rfl ?_
                    refine gc_skip ?_
                    refine gk_block ?_
                    refine gk_seq ?_
                    refine gc_region ?_
                    refine gl_cons (gs_val (val_move rfl) rfl rfl rfl ?_)
                    refine gl_cons (gs_val (val_addI rfl rfl (by omega)) rfl rfl rfl ?_)
                    refine gl_cons (gs_val (val_assign rfl) rfl rfl rfl ?_)
                    refine gl_nil ?_
                    refine gk_again (i + 1, s2, L2) ?_ ?_ ?_ ?_
                    · exact ⟨by show i + 1 ≤ k; omega, hb2, ok2⟩
                    · show k - (i + 1) < k - i; omega
                    · refine .cons rfl (.cons (congrArg (fun z => some (I64 z)) (by show _ = heldS s2; omega)) ?_); repeat (first | exact .nil | refine .cons rfl ?_)
                    · first | exact fun _ h => h.sub (List.Sublist.append_left (List.nil_sublist _) L2) | exact fun _ h => h.sub (.cons _ (List.Sublist.append_left (List.nil_sublist _) L2))
                  · obtain ⟨s2, rfl⟩ : ∃ z, z = s := ⟨_, rfl⟩
                    obtain ⟨L2, rfl⟩ : ∃ z, z = Lb := ⟨_, rfl⟩
                    have hb2 := hb
                    have ok2 := ok
                    have hh2 := held_bound ok2
                    refine gc_skip ?_
                    refine gk_block ?_
                    refine gk_seq ?_
                    refine gc_seq ?_
                    refine gc_region ?_
                    refine gl_cons (gs_val (val_move rfl) rfl rfl rfl ?_)
                    refine gl_cons (gs_turns (enters kcall22 (.cons rfl .nil)) (heldK_spec b s2 L2 hb2 ok2) rfl rfl rfl (by first | exact .app | exact (.tail .app)) (fun _ _ => trivial) (fun _ _ => ?_))
                    refine gl_cons (gs_val (val_move rfl) rfl rfl rfl ?_)
                    refine gl_cons (gs_val (val_no (val_neq rfl rfl) (by omega)) rfl rfl rfl ?_)
                    refine gl_cons (gs_val (val_move rfl) rfl rfl rfl ?_)
                    refine gl_cons (gs_val (val_move rfl) rfl rfl rfl ?_)
                    refine gl_cons (gs_turns (enters kcall29 (.cons rfl .nil)) (potK_spec b s2 L2 hb2 ok2) rfl rfl rfl .app (fun _ _ => trivial) (fun _ _ => ?_))
                    refine gl_cons (gs_val (val_move rfl) rfl rfl rfl ?_)
                    refine gl_cons (gs_val (val_no (val_gtr rfl rfl) (by omega)) rfl rfl rfl ?_)
                    refine gl_cons (gs_val (val_pick_f rfl rfl) rfl rfl rfl ?_)
                    refine gl_cons (gs_val (val_move rfl) rfl rfl rfl ?_)
                    refine gl_cons (gs_val (val_move rfl) rfl rfl rfl ?_)
                    refine gl_cons (gs_turns (enters kcall29 (.cons rfl .nil)) (potK_spec b s2 L2 hb2 ok2) rfl rfl rfl .app (fun _ _ => trivial) (fun _ _ => ?_))
                    refine gl_cons (gs_val (val_no (val_lss rfl rfl) (by omega)) rfl rfl rfl ?_)
                    refine gl_cons (gs_val (val_pick_f rfl rfl) rfl rfl rfl ?_)
                    refine gl_nil ?_
                    refine gk_seq ?_
                    refine gc_false rfl ?_
                    refine gc_skip ?_
                    refine gk_block ?_
                    refine gk_seq ?_
                    refine gc_region ?_
                    refine gl_cons (gs_val (val_move rfl) rfl rfl rfl ?_)
                    refine gl_cons (gs_val (val_addI rfl rfl (by omega)) rfl rfl rfl ?_)
                    refine gl_cons (gs_val (val_assign rfl) rfl rfl rfl ?_)
                    refine gl_nil ?_
                    refine gk_again (i + 1, s2, L2) ?_ ?_ ?_ ?_
                    · exact ⟨by show i + 1 ≤ k; omega, hb2, ok2⟩
                    · show k - (i + 1) < k - i; omega
                    · refine .cons rfl (.cons (congrArg (fun z => some (I64 z)) (by show _ = heldS s2; omega)) ?_); repeat (first | exact .nil | refine .cons rfl ?_)
                    · first | exact fun _ h => h.sub (List.Sublist.append_left (List.nil_sublist _) L2) | exact fun _ h => h.sub (.cons _ (List.Sublist.append_left (List.nil_sublist _) L2))
          · skip
            refine gl_cons (gs_skip rfl rfl rfl ?_)
            refine gl_cons (gs_skip rfl rfl rfl ?_)
            refine gl_cons (gs_skip rfl rfl rfl ?_)
            refine gl_cons (gs_val (val_pick_f rfl rfl) rfl rfl rfl ?_)
            refine gl_cons (gs_val (val_move rfl) rfl rfl rfl ?_)
            refine gl_cons (gs_skip rfl rfl rfl ?_)
            refine gl_cons (gs_skip rfl rfl rfl ?_)
            refine gl_cons (gs_skip rfl rfl rfl ?_)
            refine gl_cons (gs_skip rfl rfl rfl ?_)
            refine gl_cons (gs_skip rfl rfl rfl ?_)
            refine gl_cons (gs_skip rfl rfl rfl ?_)
            refine gl_cons (gs_val (val_pick_f rfl rfl) rfl rfl rfl ?_)
            refine gl_nil ?_
            refine gk_seq ?_
            refine gc_false rfl ?_
            refine gc_skip ?_
            refine gk_seq ?_
            refine gc_seq ?_
            refine gc_seq ?_
            refine gc_region ?_
            refine gl_cons (gs_val (val_fieldAddr kfo35_0 rfl) rfl rfl rfl ?_)
            refine gl_cons (gs_val (val_load1 kag3 rfl (sees_mem (by repeat (first | exact .head _ | refine .tail _ ?_ | refine List.mem_append_right _ ?_))) rfl) rfl rfl rfl ?_)
            refine gl_nil ?_
            refine gk_seq ?_
            refine gc_block ?_
            refine gc_seq ?_
            refine gc_region ?_
            refine gl_cons (gs_val (val_eql rfl rfl) rfl rfl rfl ?_)
            refine gl_cons (gs_val (val_assign rfl) rfl rfl rfl ?_)
            refine gl_nil ?_
            refine gk_seq ?_
            refine gc_if rfl (fun hk0 => ?_) (fun hk0 => ?_)
            · skip
              refine ga_start (m := 8) (ls := [false, false, false, false, false, false, false, false]) kmixed rfl rfl ?_
              apply share3 (α := Option Addr) (β := Nat) (γ := List Ent) (m' := 1) (ls' := [true, true, true, true, true, true, true, false])
              · intro hD0
                apply share0  (m' := 2) (ls' := [true, true, true, true, true, true, false, false])
                · intro hD1
                  apply share0  (m' := 3) (ls' := [true, true, true, true, true, false, false, false])
                  · intro hD2
                    refine ga_take (i := 0) (ls' := [true, false, false, false, false, false, false, false]) rfl (by kernel_rfl) rfl (fun _ _ _ => val_move rfl) rfl rfl rfl ?_
                    refine ga_take (i := 1) (ls' := [true, true, false, false, false, false, false, false]) rfl (by kernel_rfl) rfl (fun _ _ _ => val_fieldAddr kfo35_1 rfl) rfl rfl rfl ?_
                    refine ga_take (i := 3) (ls' := [true, true, false, true, false, false, false, false]) rfl (by kernel_rfl) rfl (fun _ _ _ => val_fieldAddr kfo35_4 rfl) rfl rfl rfl ?_
                    refine ga_branch (rs := [2, 4]) (by kernel_rfl) rfl (.cons (ls' := [true, true, true, true, false, false, false, false]) rfl rfl ?_ (.cons (ls' := [true, true, false, true, true, false, false, false]) rfl rfl ?_ .nil))
                    · skip
                      refine gs_val (val_load1 kag3 rfl (sees_mem (by repeat (first | exact .head _ | refine .tail _ ?_ | refine List.mem_append_right _ ?_))) rfl) rfl rfl rfl ?_
                      refine ga_branch (rs := [4]) (by kernel_rfl) rfl (.cons (ls' := [true, true, true, true, true, false, false, false]) rfl rfl ?_ .nil)
                      refine gs_val (val_loadA (ds := raL al[i].t al[i].num (.slice al[i].ra al[i].n al[i].c) al[i].un) kag33 rfl (sees_mem (by repeat (first | exact .head _ | refine .tail _ ?_ | refine List.mem_append_right _ ?_))) rfl rfl) rfl rfl rfl ?_
                      refine gx_env (F := [(1, _), (5, _), (7, _), (8, _), (9, _), (10, _), (12, _), (13, _), (35, _), (36, _), (37, _), (38, _), (39, _), (40, _), (41, _), (42, _), (45, _), (46, _), (47, _), (48, _), (49, _), (50, _), (51, _), (52, _), (53, _), (54, _), (55, _), (56, _), (57, _), (58, _), (59, _), (60, _), (61, _), (62, _), (63, _), (64, _), (65, _), (66, _), (67, _), (68, _), (69, _), (70, _), (71, _), (72, _), (73, _), (74, _), (81, _), (82, _), (83, _), (84, _), (85, _), (86, _), (87, _), (88, _), (89, _)]) (.cons rfl (.cons rfl (.cons rfl (.cons rfl (.cons rfl (.cons rfl (.cons rfl (.cons rfl (.cons rfl (.cons rfl (.cons rfl (.cons rfl (.cons rfl (.cons rfl (.cons rfl (.cons rfl (.cons rfl (.cons rfl (.cons rfl (.cons rfl (.cons rfl (.cons rfl (.cons rfl (.cons rfl (.cons rfl (.cons rfl (.cons rfl (.cons rfl (.cons rfl (.cons rfl (.cons rfl (.cons rfl (.cons rfl (.cons rfl (.cons rfl (.cons rfl (.cons rfl (.cons rfl (.cons rfl (.cons rfl (.cons rfl (.cons rfl (.cons rfl (.cons rfl (.cons rfl (.cons rfl (.cons rfl (.cons rfl (.cons rfl (.cons rfl (.cons rfl (.cons rfl (.cons rfl (.cons rfl (.cons rfl .nil))))))))))))))))))))))))))))))))))))))))))))))))))))))) (gx_perm (by first | exact .refl _ | (repeat (first | exact .refl _ | refine perm_take (by first | exact .head | exact .tail .head | exact .tail (.tail .head) | exact .tail (.tail (.tail .head)) | exact .tail (.tail (.tail (.tail .head))) | exact .tail (.tail (.tail (.tail (.tail .head))))) ?_ | refine perm_takeL (by repeat (first | exact .app | exact .here | apply TakeL.tail | apply TakeL.appr)) ?_ | refine perm_takeX (by repeat (first | exact .cons .head .nil | apply TakeL.tail | apply TakeL.appr)) ?_))) (hD2  True.intro))
                    · skip
                      refine gs_val (val_loadA (ds := raL al[i].t al[i].num (.slice al[i].ra al[i].n al[i].c) al[i].un) kag33 rfl (sees_mem (by repeat (first | exact .head _ | refine .tail _ ?_ | refine List.mem_append_right _ ?_))) rfl rfl) rfl rfl rfl ?_
                      refine ga_branch (rs := [2, 5]) (by kernel_rfl) rfl (.cons (ls' := [true, true, true, true, true, false, false, false]) rfl rfl ?_ (.cons (ls' := [true, true, false, true, true, true, false, false]) rfl rfl ?_ .nil))
                      · skip
                        refine gs_val (val_load1 kag3 rfl (sees_mem (by repeat (first | exact .head _ | refine .tail _ ?_ | refine List.mem_append_right _ ?_))) rfl) rfl rfl rfl ?_
                        refine gx_env (F := [(1, _), (5, _), (7, _), (8, _), (9, _), (10, _), (12, _), (13, _), (35, _), (36, _), (37, _), (38, _), (39, _), (40, _), (41, _), (42, _), (45, _), (46, _), (47, _), (48, _), (49, _), (50, _), (51, _), (52, _), (53, _), (54, _), (55, _), (56, _), (57, _), (58, _), (59, _), (60, _), (61, _), (62, _), (63, _), (64, _), (65, _), (66, _), (67, _), (68, _), (69, _), (70, _), (71, _), (72, _), (73, _), (74, _), (81, _), (82, _), (83, _), (84, _), (85, _), (86, _), (87, _), (88, _), (89, _)]) (.cons rfl (.cons rfl (.cons rfl (.cons rfl (.cons rfl (.cons rfl (.cons rfl (.cons rfl (.cons rfl (.cons rfl (.cons rfl (.cons rfl (.cons rfl (.cons rfl (.cons rfl (.cons rfl (.cons rfl (.cons rfl (.cons rfl (.cons rfl (.cons rfl (.cons rfl (.cons rfl (.cons rfl (.cons rfl (.cons rfl (.cons rfl (.cons rfl (.cons rfl (.cons rfl (.cons rfl (.cons rfl (.cons rfl (.cons rfl (.cons rfl (.cons rfl (.cons rfl (.cons rfl (.cons rfl (.cons rfl (.cons rfl (.cons rfl (.cons rfl (.cons rfl (.cons rfl (.cons rfl (.cons rfl (.cons rfl (.cons rfl (.cons rfl (.cons rfl (.cons rfl (.cons rfl (.cons rfl (.cons rfl .nil))))))))))))))))))))))))))))))))))))))))))))))))))))))) (gx_perm (by first | exact .refl _ | (repeat (first | exact .refl _ | refine perm_take (by first | exact .head | exact .tail .head | exact .tail (.tail .head) | exact .tail (.tail (.tail .head)) | exact .tail (.tail (.tail (.tail .head))) | exact .tail (.tail (.tail (.tail (.tail .head))))) ?_ | refine perm_takeL (by repeat (first | exact .app | exact .here | apply TakeL.tail | apply TakeL.appr)) ?_ | refine perm_takeX (by repeat (first | exact .cons .head .nil | apply TakeL.tail | apply TakeL.appr)) ?_))) (hD2  True.intro))
                      · skip
                        refine gs_pure (enters kcall26 (.cons rfl .nil)) (of_spec al[i].t al[i].num al[i].un al[i].ra al[i].n al[i].c (min al[i].n 10) rfl (hal _ (List.getElem_mem hil)).2.1) rfl rfl rfl (fun _ _ => trivial) ?_
                        refine ga_branch (rs := [2, 6]) (by kernel_rfl) rfl (.cons (ls' := [true, true, true, true, true, true, false, false]) rfl rfl ?_ (.cons (ls' := [true, true, false, true, true, true, true, false]) rfl rfl ?_ .nil))
                        · skip
                          refine gs_val (val_load1 kag3 rfl (sees_mem (by repeat (first | exact .head _ | refine .tail _ ?_ | refine List.mem_append_right _ ?_))) rfl) rfl rfl rfl ?_
                          refine gx_env (F := [(1, _), (5, _), (7, _), (8, _), (9, _), (10, _), (12, _), (13, _), (35, _), (36, _), (37, _), (38, _), (39, _), (40, _), (41, _), (42, _), (45, _), (46, _), (47, _), (48, _), (49, _), (50, _), (51, _), (52, _), (53, _), (54, _), (55, _), (56, _), (57, _), (58, _), (59, _), (60, _), (61, _), (62, _), (63, _), (64, _), (65, _), (66, _), (67, _), (68, _), (69, _), (70, _), (71, _), (72, _), (73, _), (74, _), (81, _), (82, _), (83, _), (84, _), (85, _), (86, _), (87, _), (88, _), (89, _), (90, _)]) (.cons rfl (.cons rfl (.cons rfl (.cons rfl (.cons rfl (.cons rfl (.cons rfl (.cons rfl (.cons rfl (.cons rfl (.cons rfl (.cons rfl (.cons rfl (.cons rfl (.cons rfl (.cons rfl (.cons rfl (.cons rfl (.cons rfl (.cons rfl (.cons rfl (.cons rfl (.cons rfl (.cons rfl (.cons rfl (.cons rfl (.cons rfl (.cons rfl (.cons rfl (.cons rfl (.cons rfl (.cons rfl (.cons rfl (.cons rfl (.cons rfl (.cons rfl (.cons rfl (.cons rfl (.cons rfl (.cons rfl (.cons rfl (.cons rfl (.cons rfl (.cons rfl (.cons rfl (.cons rfl (.cons rfl (.cons rfl (.cons rfl (.cons rfl (.cons rfl (.cons rfl (.cons rfl (.cons rfl (.cons rfl (.cons rfl .nil)))))))))))))))))))))))))))))))))))))))))))))))))))))))) (gx_perm (by first | exact .refl _ | (repeat (first | exact .refl _ | refine perm_take (by first | exact .head | exact .tail .head | exact .tail (.tail .head) | exact .tail (.tail (.tail .head)) | exact .tail (.tail (.tail (.tail .head))) | exact .tail (.tail (.tail (.tail (.tail .head))))) ?_ | refine perm_takeL (by repeat (first | exact .app | exact .here | apply TakeL.tail | apply TakeL.appr)) ?_ | refine perm_takeX (by repeat (first | exact .cons .head .nil | apply TakeL.tail | apply TakeL.appr)) ?_))) (hD1  True.intro))
                        · skip
                          refine gs_makes (enters kcall25 (.cons rfl .nil)) (to_spec al[i].t al[i].num al[i].un al[i].ra (min al[i].n 10) al[i].c (al[i].ad.take (min al[i].n 10)) (by rw [List.length_take, (hal _ (List.getElem_mem hil)).1]; omega) (by omega)) rfl rfl rfl (row_of_sees (((sees_row (hpre.2.2 _ (List.getElem_mem hil))).take (min al[i].n 10)).cast (ds := (al[i].ad.take (min al[i].n 10)).map I64) (by rw [List.map_take]))) (fun ⟨ta, tc, tN⟩ hto => ?_)
                          have hto : Own 3 1 ta (min al[i].n 10) tc ((al[i].ad.take (min al[i].n 10)).map I64) tN := hto
                          have hal1 := (hal _ (List.getElem_mem hil)).1
                          refine ga_branch (rs := [2]) (by kernel_rfl) rfl (.cons (ls' := [true, true, true, true, true, true, true, false]) rfl rfl ?_ .nil)
                          refine gs_val (val_load1 kag3 rfl (sees_mem (by repeat (first | exact .head _ | refine .tail _ ?_ | refine List.mem_append_right _ ?_))) rfl) rfl rfl rfl ?_
                          refine gx_env (F := [(1, _), (5, _), (7, _), (8, _), (9, _), (10, _), (12, _), (13, _), (35, _), (36, _), (37, _), (38, _), (39, _), (40, _), (41, _), (42, _), (45, _), (46, _), (47, _), (48, _), (49, _), (50, _), (51, _), (52, _), (53, _), (54, _), (55, _), (56, _), (57, _), (58, _), (59, _), (60, _), (61, _), (62, _), (63, _), (64, _), (65, _), (66, _), (67, _), (68, _), (69, _), (70, _), (71, _), (72, _), (73, _), (74, _), (81, _), (82, _), (83, _), (84, _), (85, _), (86, _), (87, _), (88, _), (89, _), (90, _), (91, _)]) (.cons rfl (.cons rfl (.cons rfl (.cons rfl (.cons rfl (.cons rfl (.cons rfl (.cons rfl (.cons rfl (.cons rfl (.cons rfl (.cons rfl (.cons rfl (.cons rfl (.cons rfl (.cons rfl (.cons rfl (.cons rfl (.cons rfl (.cons rfl (.cons rfl (.cons rfl (.cons rfl (.cons rfl (.cons rfl (.cons rfl (.cons rfl (.cons rfl (.cons rfl (.cons rfl (.cons rfl (.cons rfl (.cons rfl (.cons rfl (.cons rfl (.cons rfl (.cons rfl (.cons rfl (.cons rfl (.cons rfl (.cons rfl (.cons rfl (.cons rfl (.cons rfl (.cons rfl (.cons rfl (.cons rfl (.cons rfl (.cons rfl (.cons rfl (.cons rfl (.cons rfl (.cons rfl (.cons rfl (.cons rfl (.cons rfl (.cons rfl .nil))))))))))))))))))))))))))))))))))))))))))))))))))))))))) (gx_perm (by first | exact .refl _ | (repeat (first | exact .refl _ | refine perm_take (by first | exact .head | exact .tail .head | exact .tail (.tail .head) | exact .tail (.tail (.tail .head)) | exact .tail (.tail (.tail (.tail .head))) | exact .tail (.tail (.tail (.tail (.tail .head))))) ?_ | refine perm_takeL (by repeat (first | exact .app | exact .here | apply TakeL.tail | apply TakeL.appr)) ?_ | refine perm_takeX (by repeat (first | exact .cons .head .nil | apply TakeL.tail | apply TakeL.appr)) ?_))) (hD0 ta tc tN (And.intro hto True.intro)))
                  · rintro  _
                    refine ga_branch (rs := [5]) (by kernel_rfl) rfl (.cons (ls' := [true, true, true, true, true, true, false, false]) rfl rfl ?_ .nil)
                    refine gs_pure (enters kcall26 (.cons rfl .nil)) (of_spec al[i].t al[i].num al[i].un al[i].ra al[i].n al[i].c (min al[i].n 10) rfl (hal _ (List.getElem_mem hil)).2.1) rfl rfl rfl (fun _ _ => trivial) ?_
                    refine gx_env (F := [(1, _), (5, _), (7, _), (8, _), (9, _), (10, _), (12, _), (13, _), (35, _), (36, _), (37, _), (38, _), (39, _), (40, _), (41, _), (42, _), (45, _), (46, _), (47, _), (48, _), (49, _), (50, _), (51, _), (52, _), (53, _), (54, _), (55, _), (56, _), (57, _), (58, _), (59, _), (60, _), (61, _), (62, _), (63, _), (64, _), (65, _), (66, _), (67, _), (68, _), (69, _), (70, _), (71, _), (72, _), (73, _), (74, _), (81, _), (82, _), (83, _), (84, _), (85, _), (86, _), (87, _), (88, _), (89, _), (90, _)]) (.cons rfl (.cons rfl (.cons rfl (.cons rfl (.cons rfl (.cons rfl (.cons rfl (.cons rfl (.cons rfl (.cons rfl (.cons rfl (.cons rfl (.cons rfl (.cons rfl (.cons rfl (.cons rfl (.cons rfl (.cons rfl (.cons rfl (.cons rfl (.cons rfl (.cons rfl (.cons rfl (.cons rfl (.cons rfl (.cons rfl (.cons rfl (.cons rfl (.cons rfl (.cons rfl (.cons rfl (.cons rfl (.cons rfl (.cons rfl (.cons rfl (.cons rfl (.cons rfl (.cons rfl (.cons rfl (.cons rfl (.cons rfl (.cons rfl (.cons rfl (.cons rfl (.cons rfl (.cons rfl (.cons rfl (.cons rfl (.cons rfl (.cons rfl (.cons rfl (.cons rfl (.cons rfl (.cons rfl (.cons rfl (.cons rfl .nil)))))))))))))))))))))))))))))))))))))))))))))))))))))))) (gx_perm (by first | exact .refl _ | (repeat (first | exact .refl _ | refine perm_take (by first | exact .head | exact .tail .head | exact .tail (.tail .head) | exact .tail (.tail (.tail .head)) | exact .tail (.tail (.tail (.tail .head))) | exact .tail (.tail (.tail (.tail (.tail .head))))) ?_ | refine perm_takeL (by repeat (first | exact .app | exact .here | apply TakeL.tail | apply TakeL.appr)) ?_ | refine perm_takeX (by repeat (first | exact .cons .head .nil | apply TakeL.tail | apply TakeL.appr)) ?_))) (hD1  True.intro))
                · rintro  _
                  refine ga_branch (rs := [6]) (by kernel_rfl) rfl (.cons (ls' := [true, true, true, true, true, true, true, false]) rfl rfl ?_ .nil)
                  refine gs_makes (enters kcall25 (.cons rfl .nil)) (to_spec al[i].t al[i].num al[i].un al[i].ra (min al[i].n 10) al[i].c (al[i].ad.take (min al[i].n 10)) (by rw [List.length_take, (hal _ (List.getElem_mem hil)).1]; omega) (by omega)) rfl rfl rfl (row_of_sees (((sees_row (hpre.2.2 _ (List.getElem_mem hil))).take (min al[i].n 10)).cast (ds := (al[i].ad.take (min al[i].n 10)).map I64) (by rw [List.map_take]))) (fun ⟨ta, tc, tN⟩ hto => ?_)
                  have hto : Own 3 1 ta (min al[i].n 10) tc ((al[i].ad.take (min al[i].n 10)).map I64) tN := hto
                  have hal1 := (hal _ (List.getElem_mem hil)).1
                  refine gx_env (F := [(1, _), (5, _), (7, _), (8, _), (9, _), (10, _), (12, _), (13, _), (35, _), (36, _), (37, _), (38, _), (39, _), (40, _), (41, _), (42, _), (45, _), (46, _), (47, _), (48, _), (49, _), (50, _), (51, _), (52, _), (53, _), (54, _), (55, _), (56, _), (57, _), (58, _), (59, _), (60, _), (61, _), (62, _), (63, _), (64, _), (65, _), (66, _), (67, _), (68, _), (69, _), (70, _), (71, _), (72, _), (73, _), (74, _), (81, _), (82, _), (83, _), (84, _), (85, _), (86, _), (87, _), (88, _), (89, _), (90, _), (91, _)]) (.cons rfl (.cons rfl (.cons rfl (.cons rfl (.cons rfl (.cons rfl (.cons rfl (.cons rfl (.cons rfl (.cons rfl (.cons rfl (.cons rfl (.cons rfl (.cons rfl (.cons rfl (.cons rfl (.cons rfl (.cons rfl (.cons rfl (.cons rfl (.cons rfl (.cons rfl (.cons rfl (.cons rfl (.cons rfl (.cons rfl (.cons rfl (.cons rfl (.cons rfl (.cons rfl (.cons rfl (.cons rfl (.cons rfl (.cons rfl (.cons rfl (.cons rfl (.cons rfl (.cons rfl (.cons rfl (.cons rfl (.cons rfl (.cons rfl (.cons rfl (.cons rfl (.cons rfl (.cons rfl (.cons rfl (.cons rfl (.cons rfl (.cons rfl (.cons rfl (.cons rfl (.cons rfl (.cons rfl (.cons rfl (.cons rfl (.cons rfl .nil))))))))))))))))))))))))))))))))))))))))))))))))))))))))) (gx_perm (by first | exact .refl _ | (repeat (first | exact .refl _ | refine perm_take (by first | exact .head | exact .tail .head | exact .tail (.tail .head) | exact .tail (.tail (.tail .head)) | exact .tail (.tail (.tail (.tail .head))) | exact .tail (.tail (.tail (.tail (.tail .head))))) ?_ | refine perm_takeL (by repeat (first | exact .app | exact .here | apply TakeL.tail | apply TakeL.appr)) ?_ | refine perm_takeX (by repeat (first | exact .cons .head .nil | apply TakeL.tail | apply TakeL.appr)) ?_))) (hD0 ta tc tN (And.intro hto True.intro)))
              · rintro ta tc tN ⟨hto, _⟩
                refine ga_branch (rs := [7]) (by kernel_rfl) rfl (.cons (ls' := [true, true, true, true, true, true, true, true]) rfl rfl ?_ .nil)
                refine gs_turns (enters kcall24 (.cons rfl (.cons rfl (.cons rfl .nil)))) ((by have h9 := askK_spec b s Lb hb ok al[i].h al[i].t al[i].num al[i].un ta tc (al[i].ad.take (min al[i].n 10)) (by rw [List.length_take]; omega); rw [show (al[i].ad.take (min al[i].n 10)).length = min al[i].n 10 by rw [List.length_take, (hal _ (List.getElem_mem hil)).1]; omega] at h9; exact h9)) rfl rfl rfl (.appr (.tail .app)) (row_of_ownL hto (.appr (.tail .app)) .app) (fun L2 hb2 => ?_)
                have hb2 : BK 154 157 3 4 b (askS s al[i].h al[i].t al[i].num al[i].un (al[i].ad.take (min al[i].n 10))) L2 := hb2
                have ok2 := askS_ok (now := al[i].h) (rt := al[i].t) (rn := al[i].num) (ru := al[i].un) (rad := (al[i].ad.take (min al[i].n 10))) ok
                have e2 : heldS (askS s al[i].h al[i].t al[i].num al[i].un (al[i].ad.take (min al[i].n 10))) = heldS s := held_ask
                obtain ⟨s2, hs2⟩ : ∃ z, askS s al[i].h al[i].t al[i].num al[i].un (al[i].ad.take (min al[i].n 10)) = z := ⟨_, rfl⟩
                rw [hs2] at hb2 ok2 e2
                have hh2 := held_bound ok2
                refine ga_done (by kernel_rfl) ?_
                refine gk_block ?_
                refine gk_seq ?_
                refine gc_seq ?_
                refine gc_region ?_
                refine gl_cons (gs_val (val_move rfl) rfl rfl rfl ?_)
                refine gl_cons (gs_turns (enters kcall22 (.cons rfl .nil)) (heldK_spec b s2 L2 hb2 ok2) rfl rfl rfl (by first | exact .app | exact (.tail .app)) (fun _ _ => trivial) (fun _ _ => ?_))
                refine gl_cons (gs_val (val_move rfl) rfl rfl rfl ?_)
                refine gl_cons (gs_val (val_no (val_neq rfl rfl) (by omega)) rfl rfl rfl ?_)
                refine gl_cons (gs_val (val_move rfl) rfl rfl rfl ?_)
                refine gl_cons (gs_val (val_move rfl) rfl rfl rfl ?_)
                refine gl_cons (gs_turns (enters kcall29 (.cons rfl .nil)) (potK_spec b s2 L2 hb2 ok2) rfl rfl rfl .app (fun _ _ => trivial) (fun _ _ => ?_))
                refine gl_cons (gs_val (val_move rfl) rfl rfl rfl ?_)
                refine gl_cons (gs_val (val_no (val_gtr rfl rfl) (by omega)) rfl rfl rfl ?_)
                refine gl_cons (gs_val (val_pick_f rfl rfl) rfl rfl rfl ?_)
                refine gl_cons (gs_val (val_move rfl) rfl rfl rfl ?_)
                refine gl_cons (gs_val (val_move rfl) rfl rfl rfl ?_)
                refine gl_cons (gs_turns (enters kcall29 (.cons rfl .nil)) (potK_spec b s2 L2 hb2 ok2) rfl rfl rfl .app (fun _ _ => trivial) (fun _ _ => ?_))
                refine gl_cons (gs_val (val_no (val_lss rfl rfl) (by omega)) rfl rfl rfl ?_)
                refine gl_cons (gs_val (val_pick_f rfl rfl) rfl rfl rfl ?_)
                refine gl_nil ?_
                refine gk_seq ?_
                refine gc_false rfl ?_
                refine gc_skip ?_
                refine gk_block ?_
                refine gk_seq ?_
                refine gc_region ?_
                refine gl_cons (gs_val (val_move rfl) rfl rfl rfl ?_)
                refine gl_cons (gs_val (val_addI rfl rfl (by omega)) rfl rfl rfl ?_)
                refine gl_cons (gs_val (val_assign rfl) rfl rfl rfl ?_)
                refine gl_nil ?_
                refine gk_again (i + 1, s2, L2) ?_ ?_ ?_ ?_
                · exact ⟨by show i + 1 ≤ k; omega, hb2, ok2⟩
                · show k - (i + 1) < k - i; omega
                · refine .cons rfl (.cons (congrArg (fun z => some (I64 z)) (by show _ = heldS s2; omega)) ?_); repeat (first | exact .nil | refine .cons rfl ?_)
                · first | exact fun _ h => h.sub (List.Sublist.append_left (List.nil_sublist _) L2) | exact fun _ h => h.sub (.cons _ (List.Sublist.append_left (List.nil_sublist _) L2))
            · skip
              refine gc_seq ?_
              refine gc_region ?_
              refine gl_cons (gs_val (val_eql rfl rfl) rfl rfl rfl ?_)
              refine gl_cons (gs_val (val_assign rfl) rfl rfl rfl ?_)
              refine gl_nil ?_
              refine gk_seq ?_
              refine gc_if rfl (fun hk1 => ?_) (fun hk1 => ?_)
              · skip
                refine gc_seq ?_
                refine gc_region ?_
                refine gl_cons (gs_val (val_move rfl) rfl rfl rfl ?_)
                refine gl_cons (gs_val (val_fieldAddr kfo35_1 rfl) rfl rfl rfl ?_)
                refine gl_cons (gs_val (val_load1 kag3 rfl (sees_mem (by repeat (first | exact .head _ | refine .tail _ ?_ | refine List.mem_append_right _ ?_))) rfl) rfl rfl rfl ?_)
                refine gl_cons (gs_val (val_fieldAddr kfo35_2 rfl) rfl rfl rfl ?_)
                refine gl_cons (gs_val (val_load1 kag3 rfl (sees_mem (by repeat (first | exact .head _ | refine .tail _ ?_ | refine List.mem_append_right _ ?_))) rfl) rfl rfl rfl ?_)
                refine gl_cons (gs_val (val_move rfl) rfl rfl rfl ?_)
                refine gl_cons (gs_turns (enters kcall27 (.cons rfl (.cons rfl (.cons rfl (.cons rfl .nil))))) (putK_spec b s Lb hb ok al[i].h al[i].s al[i].m) rfl rfl rfl (.tail .app) (fun _ _ => trivial) (fun L2 hb2 => ?_))
                have hb2 : BK 154 157 3 4 b (putS s al[i].h al[i].s al[i].m) L2 := hb2
                have hp2 := held_put (now := al[i].h) (seat := al[i].s) (amt := al[i].m) ok
                have ok2 := putS_ok (now := al[i].h) (seat := al[i].s) (amt := al[i].m) ok
                obtain ⟨pe, hpe⟩ : ∃ z, putE s al[i].h al[i].s al[i].m = z := ⟨_, rfl⟩
                obtain ⟨s2, hs2⟩ : ∃ z, putS s al[i].h al[i].s al[i].m = z := ⟨_, rfl⟩
                rw [hs2] at hb2 ok2 hp2
                rw [hpe] at hp2 ⊢
                have hh2 := held_bound ok2
                refine gl_cons (gs_val (val_eql rfl rfl) rfl rfl rfl ?_)
                refine gl_nil ?_
                refine gk_seq ?_
                refine gc_if rfl (fun h102 => ?_) (fun h102 => ?_)
                · have e2 := hp2.1 h102
                  refine gc_region ?_
                  refine gl_cons (gs_val (val_move rfl) rfl rfl rfl ?_)
                  refine gl_cons (gs_val (val_move rfl) rfl rfl rfl ?_)
                  refine gl_cons (gs_val (val_addI rfl rfl (by omega)) rfl rfl rfl ?_)
                  refine gl_cons (gs_val (val_assign rfl) rfl rfl rfl ?_)
                  refine gl_nil ?_
                  refine gk_block ?_
                  refine gk_seq ?_
                  refine gc_seq ?_
                  refine gc_region ?_
                  refine gl_cons (gs_val (val_move rfl) rfl rfl rfl ?_)
                  refine gl_cons (gs_turns (enters kcall22 (.cons rfl .nil)) (heldK_spec b s2 L2 hb2 ok2) rfl rfl rfl (by first | exact .app | exact (.tail .app)) (fun _ _ => trivial) (fun _ _ => ?_))
                  refine gl_cons (gs_val (val_move rfl) rfl rfl rfl ?_)
                  refine gl_cons (gs_val (val_no (val_neq rfl rfl) (by omega)) rfl rfl rfl ?_)
                  refine gl_cons (gs_val (val_move rfl) rfl rfl rfl ?_)
                  refine gl_cons (gs_val (val_move rfl) rfl rfl rfl ?_)
                  refine gl_cons (gs_turns (enters kcall29 (.cons rfl .nil)) (potK_spec b s2 L2 hb2 ok2) rfl rfl rfl .app (fun _ _ => trivial) (fun _ _ => ?_))
                  refine gl_cons (gs_val (val_move rfl) rfl rfl rfl ?_)
                  refine gl_cons (gs_val (val_no (val_gtr rfl rfl) (by omega)) rfl rfl rfl ?_)
                  refine gl_cons (gs_val (val_pick_f rfl rfl) rfl rfl rfl ?_)
                  refine gl_cons (gs_val (val_move rfl) rfl rfl rfl ?_)
                  refine gl_cons (gs_val (val_move rfl) rfl rfl rfl ?_)
                  refine gl_cons (gs_turns (enters kcall29 (.cons rfl .nil)) (potK_spec b s2 L2 hb2 ok2) rfl rfl rfl .app (fun _ _ => trivial) (fun _ _ => ?_))
                  refine gl_cons (gs_val (val_no (val_lss rfl rfl) (by omega)) rfl rfl rfl ?_)
                  refine gl_cons (gs_val (val_pick_f rfl rfl) rfl rfl rfl ?_)
                  refine gl_nil ?_
                  refine gk_seq ?_
                  refine gc_false rfl ?_
                  refine gc_skip ?_
                  refine gk_block ?_
                  refine gk_seq ?_
                  refine gc_region ?_
                  refine gl_cons (gs_val (val_move rfl) rfl rfl rfl ?_)
                  refine gl_cons (gs_val (val_addI rfl rfl (by omega)) rfl rfl rfl ?_)
                  refine gl_cons (gs_val (val_assign rfl) rfl rfl rfl ?_)
                  refine gl_nil ?_
                  refine gk_again (i + 1, s2, L2) ?_ ?_ ?_ ?_
                  · exact ⟨by show i + 1 ≤ k; omega, hb2, ok2⟩
                  · show k - (i + 1) < k - i; omega
                  · refine .cons rfl (.cons (congrArg (fun z => some (I64 z)) (by show _ = heldS s2; omega)) ?_); repeat (first | exact .nil | refine .cons rfl ?_)
                  · first | exact fun _ h => h.sub (List.Sublist.append_left (List.nil_sublist _) L2) | exact fun _ h => h.sub (.cons _ (List.Sublist.append_left (List.nil_sublist _) L2))
                · have e2 : heldS s2 = heldS s := congrArg heldS (hp2.2 h102)
                  refine gc_skip ?_
                  refine gk_block ?_
                  refine gk_seq ?_
                  refine gc_seq ?_
                  refine gc_region ?_
                  refine gl_cons (gs_val (val_move rfl) rfl rfl rfl ?_)
                  refine gl_cons (gs_turns (enters kcall22 (.cons rfl .nil)) (heldK_spec b s2 L2 hb2 ok2) rfl rfl rfl (by first | exact .app | exact (.tail .app)) (fun _ _ => trivial) (fun _ _ => ?_))
                  refine gl_cons (gs_val (val_move rfl) rfl rfl rfl ?_)
                  refine gl_cons (gs_val (val_no (val_neq rfl rfl) (by omega)) rfl rfl rfl ?_)
                  refine gl_cons (gs_val (val_move rfl) rfl rfl rfl ?_)
                  refine gl_cons (gs_val (val_move rfl) rfl rfl rfl ?_)
                  refine gl_cons (gs_turns (enters kcall29 (.cons rfl .nil)) (potK_spec b s2 L2 hb2 ok2) rfl rfl rfl .app (fun _ _ => trivial) (fun _ _ => ?_))
                  refine gl_cons (gs_val (val_move rfl) rfl rfl rfl ?_)
                  refine gl_cons (gs_val (val_no (val_gtr rfl rfl) (by omega)) rfl rfl rfl ?_)
                  refine gl_cons (gs_val (val_pick_f rfl rfl) rfl rfl rfl ?_)
                  refine gl_cons (gs_val (val_move rfl) rfl rfl rfl ?_)
                  refine gl_cons (gs_val (val_move rfl) rfl rfl rfl ?_)
                  refine gl_cons (gs_turns (enters kcall29 (.cons rfl .nil)) (potK_spec b s2 L2 hb2 ok2) rfl rfl rfl .app (fun _ _ => trivial) (fun _ _ => ?_))
                  refine gl_cons (gs_val (val_no (val_lss rfl rfl) (by omega)) rfl rfl rfl ?_)
                  refine gl_cons (gs_val (val_pick_f rfl rfl) rfl rfl rfl ?_)
                  refine gl_nil ?_
                  refine gk_seq ?_
                  refine gc_false rfl ?_
                  refine gc_skip ?_
                  refine gk_block ?_
                  refine gk_seq ?_
                  refine gc_region ?_
                  refine gl_cons (gs_val (val_move rfl) rfl rfl rfl ?_)
                  refine gl_cons (gs_val (val_addI rfl rfl (by omega)) rfl rfl rfl ?_)
                  refine gl_cons (gs_val (val_assign rfl) rfl rfl rfl ?_)
                  refine gl_nil ?_
                  refine gk_again (i + 1, s2, L2) ?_ ?_ ?_ ?_
                  · exact ⟨by show i + 1 ≤ k; omega, hb2, ok2⟩
                  · show k - (i + 1) < k - i; omega
                  · refine .cons rfl (.cons (congrArg (fun z => some (I64 z)) (by show _ = heldS s2; omega)) ?_); repeat (first | exact .nil | refine .cons rfl ?_)
                  · first | exact fun _ h => h.sub (List.Sublist.append_left (List.nil_sublist _) L2) | exact fun _ h => h.sub (.cons _ (List.Sublist.append_left (List.nil_sublist _) L2))
              · skip
                refine gc_seq ?_
                refine gc_region ?_
                refine gl_cons (gs_val (val_eql rfl rfl) rfl rfl rfl ?_)
                refine gl_cons (gs_val (val_assign rfl) rfl rfl rfl ?_)
                refine gl_nil ?_
                refine gk_seq ?_
                refine gc_if rfl (fun hk2 => ?_) (fun hk2 => ?_)
                · skip
                  refine gc_seq ?_
                  refine gc_region ?_
                  refine gl_cons (gs_val (val_move rfl) rfl rfl rfl ?_)
                  refine gl_cons (gs_val (val_fieldAddr kfo35_1 rfl) rfl rfl rfl ?_)
                  refine gl_cons (gs_val (val_load1 kag3 rfl (sees_mem (by repeat (first | exact .head _ | refine .tail _ ?_ | refine List.mem_append_right _ ?_))) rfl) rfl rfl rfl ?_)
                  refine gl_cons (gs_val (val_fieldAddr kfo35_2 rfl) rfl rfl rfl ?_)
                  refine gl_cons (gs_val (val_load1 kag3 rfl (sees_mem (by repeat (first | exact .head _ | refine .tail _ ?_ | refine List.mem_append_right _ ?_))) rfl) rfl rfl rfl ?_)
                  refine gl_cons (gs_turns (enters kcall28 (.cons rfl (.cons rfl (.cons rfl .nil)))) (backK_spec b s Lb hb ok al[i].h al[i].s) rfl rfl rfl (.tail .app) (fun _ _ => trivial) (fun L2 hb2 => ?_))
                  have hb2 : BK 154 157 3 4 b (backS s al[i].h al[i].s) L2 := hb2
                  have hbk := held_back (now := al[i].h) (seat := al[i].s) ok
                  have ok2 := backS_ok (now := al[i].h) (seat := al[i].s) ok
                  obtain ⟨s2, hs2⟩ : ∃ z, backS s al[i].h al[i].s = z := ⟨_, rfl⟩
                  have e2 := hbk.1
                  rw [hs2] at hb2 ok2 e2
                  refine gl_cons (gs_val (val_move rfl) rfl rfl rfl ?_)
                  have hh2 := held_bound ok2
                  refine gl_cons (gs_val (val_extract rfl rfl) rfl rfl rfl ?_)
                  refine gl_cons (gs_val (val_extract rfl rfl) rfl rfl rfl ?_)
                  refine gl_cons (gs_val (val_assign rfl) rfl rfl rfl ?_)
                  refine gl_cons (gs_val (val_assign rfl) rfl rfl rfl ?_)
                  refine gl_nil ?_
                  refine gk_seq ?_
                  refine gc_seq ?_
                  refine gc_seq ?_
                  refine gc_region ?_
                  refine gl_cons (gs_val (val_move rfl) rfl rfl rfl ?_)
                  refine gl_cons (gs_val (val_eql rfl rfl) rfl rfl rfl ?_)
                  refine gl_cons (gs_val (val_move rfl) rfl rfl rfl ?_)
                  refine gl_cons (gs_val (val_gtr rfl rfl) rfl rfl rfl ?_)
                  refine gl_cons (gs_val (val_cast (v := .bool false) (val_neqB kun4 rfl rfl) (congrArg Value.bool (back_flip ok))) rfl rfl rfl ?_)
                  refine gl_nil ?_
                  refine gk_seq ?_
                  refine gc_false rfl ?_
                  refine gc_skip ?_
                  refine gk_seq ?_
                  refine gc_region ?_
                  refine gl_cons (gs_val (val_move rfl) rfl rfl rfl ?_)
                  refine gl_cons (gs_val (val_move rfl) rfl rfl rfl ?_)
                  refine gl_cons (gs_val (val_subI rfl rfl (by omega)) rfl rfl rfl ?_)
                  refine gl_cons (gs_val (val_assign rfl) rfl rfl rfl ?_)
                  refine gl_nil ?_
                  refine gk_block ?_
                  refine gk_seq ?_
                  refine gc_seq ?_
                  refine gc_region ?_
                  refine gl_cons (gs_val (val_move rfl) rfl rfl rfl ?_)
                  refine gl_cons (gs_turns (enters kcall22 (.cons rfl .nil)) (heldK_spec b s2 L2 hb2 ok2) rfl rfl rfl (by first | exact .app | exact (.tail .app)) (fun _ _ => trivial) (fun _ _ => ?_))
                  refine gl_cons (gs_val (val_move rfl) rfl rfl rfl ?_)
                  refine gl_cons (gs_val (val_no (val_neq rfl rfl) (by omega)) rfl rfl rfl ?_)
                  refine gl_cons (gs_val (val_move rfl) rfl rfl rfl ?_)
                  refine gl_cons (gs_val (val_move rfl) rfl rfl rfl ?_)
                  refine gl_cons (gs_turns (enters kcall29 (.cons rfl .nil)) (potK_spec b s2 L2 hb2 ok2) rfl rfl rfl .app (fun _ _ => trivial) (fun _ _ => ?_))
                  refine gl_cons (gs_val (val_move rfl) rfl rfl rfl ?_)
                  refine gl_cons (gs_val (val_no (val_gtr rfl rfl) (by omega)) rfl rfl rfl ?_)
                  refine gl_cons (gs_val (val_pick_f rfl rfl) rfl rfl rfl ?_)
                  refine gl_cons (gs_val (val_move rfl) rfl rfl rfl ?_)
                  refine gl_cons (gs_val (val_move rfl) rfl rfl rfl ?_)
                  refine gl_cons (gs_turns (enters kcall29 (.cons rfl .nil)) (potK_spec b s2 L2 hb2 ok2) rfl rfl rfl .app (fun _ _ => trivial) (fun _ _ => ?_))
                  refine gl_cons (gs_val (val_no (val_lss rfl rfl) (by omega)) rfl rfl rfl ?_)
                  refine gl_cons (gs_val (val_pick_f rfl rfl) rfl rfl rfl ?_)
                  refine gl_nil ?_
                  refine gk_seq ?_
                  refine gc_false rfl ?_
                  refine gc_skip ?_
                  refine gk_block ?_
                  refine gk_seq ?_
                  refine gc_region ?_
                  refine gl_cons (gs_val (val_move rfl) rfl rfl rfl ?_)
                  refine gl_cons (gs_val (val_addI rfl rfl (by omega)) rfl rfl rfl ?_)
                  refine gl_cons (gs_val (val_assign rfl) rfl rfl rfl ?_)
                  refine gl_nil ?_
                  refine gk_again (i + 1, s2, L2) ?_ ?_ ?_ ?_
                  · exact ⟨by show i + 1 ≤ k; omega, hb2, ok2⟩
                  · show k - (i + 1) < k - i; omega
                  · refine .cons rfl (.cons (congrArg (fun z => some (I64 z)) (by show _ = heldS s2; omega)) ?_); repeat (first | exact .nil | refine .cons rfl ?_)
                  · first | exact fun _ h => h.sub (List.Sublist.append_left (List.nil_sublist _) L2) | exact fun _ h => h.sub (.cons _ (List.Sublist.append_left (List.nil_sublist _) L2))
                · obtain ⟨s2, rfl⟩ : ∃ z, z = s := ⟨_, rfl⟩
                  obtain ⟨L2, rfl⟩ : ∃ z, z = Lb := ⟨_, rfl⟩
                  have hb2 := hb
                  have ok2 := ok
                  have hh2 := held_bound ok2
                  refine gc_skip ?_
                  refine gk_block ?_
                  refine gk_seq ?_
                  refine gc_seq ?_
                  refine gc_region ?_
                  refine gl_cons (gs_val (val_move rfl) rfl rfl rfl ?_)
                  refine gl_cons (gs_turns (enters kcall22 (.cons rfl .nil)) (heldK_spec b s2 L2 hb2 ok2) rfl rfl rfl (by first | exact .app | exact (.tail .app)) (fun _ _ => trivial) (fun _ _ => ?_))
                  refine gl_cons (gs_val (val_move rfl) rfl rfl rfl ?_)
                  refine gl_cons (gs_val (val_no (val_neq rfl rfl) (by omega)) rfl rfl rfl ?_)
                  refine gl_cons (gs_val (val_move rfl) rfl rfl rfl ?_)
                  refine gl_cons (gs_val (val_move rfl) rfl rfl rfl ?_)
                  refine gl_cons (gs_turns (enters kcall29 (.cons rfl .nil)) (potK_spec b s2 L2 hb2 ok2) rfl rfl rfl .app (fun _ _ => trivial) (fun _ _ => ?_))
                  refine gl_cons (gs_val (val_move rfl) rfl rfl rfl ?_)
                  refine gl_cons (gs_val (val_no (val_gtr rfl rfl) (by omega)) rfl rfl rfl ?_)
                  refine gl_cons (gs_val (val_pick_f rfl rfl) rfl rfl rfl ?_)
                  refine gl_cons (gs_val (val_move rfl) rfl rfl rfl ?_)
                  refine gl_cons (gs_val (val_move rfl) rfl rfl rfl ?_)
                  refine gl_cons (gs_turns (enters kcall29 (.cons rfl .nil)) (potK_spec b s2 L2 hb2 ok2) rfl rfl rfl .app (fun _ _ => trivial) (fun _ _ => ?_))
                  refine gl_cons (gs_val (val_no (val_lss rfl rfl) (by omega)) rfl rfl rfl ?_)
                  refine gl_cons (gs_val (val_pick_f rfl rfl) rfl rfl rfl ?_)
                  refine gl_nil ?_
                  refine gk_seq ?_
                  refine gc_false rfl ?_
                  refine gc_skip ?_
                  refine gk_block ?_
                  refine gk_seq ?_
                  refine gc_region ?_
                  refine gl_cons (gs_val (val_move rfl) rfl rfl rfl ?_)
                  refine gl_cons (gs_val (val_addI rfl rfl (by omega)) rfl rfl rfl ?_)
                  refine gl_cons (gs_val (val_assign rfl) rfl rfl rfl ?_)
                  refine gl_nil ?_
                  refine gk_again (i + 1, s2, L2) ?_ ?_ ?_ ?_
                  · exact ⟨by show i + 1 ≤ k; omega, hb2, ok2⟩
                  · show k - (i + 1) < k - i; omega
                  · refine .cons rfl (.cons (congrArg (fun z => some (I64 z)) (by show _ = heldS s2; omega)) ?_); repeat (first | exact .nil | refine .cons rfl ?_)
                  · first | exact fun _ h => h.sub (List.Sublist.append_left (List.nil_sublist _) L2) | exact fun _ h => h.sub (.cons _ (List.Sublist.append_left (List.nil_sublist _) L2))
        · skip
          refine gl_cons (gs_skip rfl rfl rfl ?_)
          refine gl_cons (gs_skip rfl rfl rfl ?_)
          refine gl_cons (gs_val (val_pick_f rfl rfl) rfl rfl rfl ?_)
          refine gl_cons (gs_val (val_move rfl) rfl rfl rfl ?_)
          refine gl_cons (gs_skip rfl rfl rfl ?_)
          refine gl_cons (gs_skip rfl rfl rfl ?_)
          refine gl_cons (gs_skip rfl rfl rfl ?_)
          refine gl_cons (gs_val (val_pick_f rfl rfl) rfl rfl rfl ?_)
          refine gl_cons (gs_val (val_move rfl) rfl rfl rfl ?_)
          refine gl_cons (gs_skip rfl rfl rfl ?_)
          refine gl_cons (gs_skip rfl rfl rfl ?_)
          refine gl_cons (gs_skip rfl rfl rfl ?_)
          refine gl_cons (gs_skip rfl rfl rfl ?_)
          refine gl_cons (gs_skip rfl rfl rfl ?_)
          refine gl_cons (gs_skip rfl rfl rfl ?_)
          refine gl_cons (gs_val (val_pick_f rfl rfl) rfl rfl rfl ?_)
          refine gl_nil ?_
          refine gk_seq ?_
          refine gc_false rfl ?_
          refine gc_skip ?_
          refine gk_seq ?_
          refine gc_seq ?_
          refine gc_seq ?_
          refine gc_region ?_
          refine gl_cons (gs_val (val_fieldAddr kfo35_0 rfl) rfl rfl rfl ?_)
          refine gl_cons (gs_val (val_load1 kag3 rfl (sees_mem (by repeat (first | exact .head _ | refine .tail _ ?_ | refine List.mem_append_right _ ?_))) rfl) rfl rfl rfl ?_)
          refine gl_nil ?_
          refine gk_seq ?_
          refine gc_block ?_
          refine gc_seq ?_
          refine gc_region ?_
          refine gl_cons (gs_val (val_eql rfl rfl) rfl rfl rfl ?_)
          refine gl_cons (gs_val (val_assign rfl) rfl rfl rfl ?_)
          refine gl_nil ?_
          refine gk_seq ?_
          refine gc_if rfl (fun hk0 => ?_) (fun hk0 => ?_)
          · skip
            refine ga_start (m := 8) (ls := [false, false, false, false, false, false, false, false]) kmixed rfl rfl ?_
            apply share3 (α := Option Addr) (β := Nat) (γ := List Ent) (m' := 1) (ls' := [true, true, true, true, true, true, true, false])
            · intro hD0
              apply share0  (m' := 2) (ls' := [true, true, true, true, true, true, false, false])
              · intro hD1
                apply share0  (m' := 3) (ls' := [true, true, true, true, true, false, false, false])
                · intro hD2
                  refine ga_take (i := 0) (ls' := [true, false, false, false, false, false, false, false]) rfl (by kernel_rfl) rfl (fun _ _ _ => val_move rfl) rfl rfl rfl ?_
                  refine ga_take (i := 1) (ls' := [true, true, false, false, false, false, false, false]) rfl (by kernel_rfl) rfl (fun _ _ _ => val_fieldAddr kfo35_1 rfl) rfl rfl rfl ?_
                  refine ga_take (i := 3) (ls' := [true, true, false, true, false, false, false, false]) rfl (by kernel_rfl) rfl (fun _ _ _ => val_fieldAddr kfo35_4 rfl) rfl rfl rfl ?_
                  refine ga_branch (rs := [2, 4]) (by kernel_rfl) rfl (.cons (ls' := [true, true, true, true, false, false, false, false]) rfl rfl ?_ (.cons (ls' := [true, true, false, true, true, false, false, false]) rfl rfl ?_ .nil))
                  · skip
                    refine gs_val (val_load1 kag3 rfl (sees_mem (by repeat (first | exact .head _ | refine .tail _ ?_ | refine List.mem_append_right _ ?_))) rfl) rfl rfl rfl ?_
                    refine ga_branch (rs := [4]) (by kernel_rfl) rfl (.cons (ls' := [true, true, true, true, true, false, false, false]) rfl rfl ?_ .nil)
                    refine gs_val (val_loadA (ds := raL al[i].t al[i].num (.slice al[i].ra al[i].n al[i].c) al[i].un) kag33 rfl (sees_mem (by repeat (first | exact .head _ | refine .tail _ ?_ | refine List.mem_append_right _ ?_))) rfl rfl) rfl rfl rfl ?_
                    refine gx_env (F := [(1, _), (5, _), (7, _), (8, _), (9, _), (10, _), (12, _), (13, _), (35, _), (36, _), (37, _), (38, _), (39, _), (40, _), (41, _), (42, _), (45, _), (46, _), (47, _), (48, _), (49, _), (50, _), (51, _), (52, _), (53, _), (54, _), (55, _), (56, _), (57, _), (58, _), (59, _), (60, _), (61, _), (62, _), (63, _), (64, _), (65, _), (66, _), (67, _), (68, _), (69, _), (70, _), (71, _), (72, _), (73, _), (74, _), (81, _), (82, _), (83, _), (84, _), (85, _), (86, _), (87, _), (88, _), (89, _)]) (.cons rfl (.cons rfl (.cons rfl (.cons rfl (.cons rfl (.cons rfl (.cons rfl (.cons rfl (.cons rfl (.cons rfl (.cons rfl (.cons rfl (.cons rfl (.cons rfl (.cons rfl (.cons rfl (.cons rfl (.cons rfl (.cons rfl (.cons rfl (.cons rfl (.cons rfl (.cons rfl (.cons rfl (.cons rfl (.cons rfl (.cons rfl (.cons rfl (.cons rfl (.cons rfl (.cons rfl (.cons rfl (.cons rfl (.cons rfl (.cons rfl (.cons rfl (.cons rfl (.cons rfl (.cons rfl (.cons rfl (.cons rfl (.cons rfl (.cons rfl (.cons rfl (.cons rfl (.cons rfl (.cons rfl (.cons rfl (.cons rfl (.cons rfl (.cons rfl (.cons rfl (.cons rfl (.cons rfl (.cons rfl .nil))))))))))))))))))))))))))))))))))))))))))))))))))))))) (gx_perm (by first | exact .refl _ | (repeat (first | exact .refl _ | refine perm_take (by first | exact .head | exact .tail .head | exact .tail (.tail .head) | exact .tail (.tail (.tail .head)) | exact .tail (.tail (.tail (.tail .head))) | exact .tail (.tail (.tail (.tail (.tail .head))))) ?_ | refine perm_takeL (by repeat (first | exact .app | exact .here | apply TakeL.tail | apply TakeL.appr)) ?_ | refine perm_takeX (by repeat (first | exact .cons .head .nil | apply TakeL.tail | apply TakeL.appr)) ?_))) (hD2  True.intro))
                  · skip
                    refine gs_val (val_loadA (ds := raL al[i].t al[i].num (.slice al[i].ra al[i].n al[i].c) al[i].un) kag33 rfl (sees_mem (by repeat (first | exact .head _ | refine .tail _ ?_ | refine List.mem_append_right _ ?_))) rfl rfl) rfl rfl rfl ?_
                    refine ga_branch (rs := [2, 5]) (by kernel_rfl) rfl (.cons (ls' := [true, true, true, true, true, false, false, false]) rfl rfl ?_ (.cons (ls' := [true, true, false, true, true, true, false, false]) rfl rfl ?_ .nil))
                    · skip
                      refine gs_val (val_load1 kag3 rfl (sees_mem (by repeat (first | exact .head _ | refine .tail _ ?_ | refine List.mem_append_right _ ?_))) rfl) rfl rfl rfl ?_
                      refine gx_env (F := [(1, _), (5, _), (7, _), (8, _), (9, _), (10, _), (12, _), (13, _), (35, _), (36, _), (37, _), (38, _), (39, _), (40, _), (41, _), (42, _), (45, _), (46, _), (47, _), (48, _), (49, _), (50, _), (51, _), (52, _), (53, _), (54, _), (55, _), (56, _), (57, _), (58, _), (59, _), (60, _), (61, _), (62, _), (63, _), (64, _), (65, _), (66, _), (67, _), (68, _), (69, _), (70, _), (71, _), (72, _), (73, _), (74, _), (81, _), (82, _), (83, _), (84, _), (85, _), (86, _), (87, _), (88, _), (89, _)]) (.cons rfl (.cons rfl (.cons rfl (.cons rfl (.cons rfl (.cons rfl (.cons rfl (.cons rfl (.cons rfl (.cons rfl (.cons rfl (.cons rfl (.cons rfl (.cons rfl (.cons rfl (.cons rfl (.cons rfl (.cons rfl (.cons rfl (.cons rfl (.cons rfl (.cons rfl (.cons rfl (.cons rfl (.cons rfl (.cons rfl (.cons rfl (.cons rfl (.cons rfl (.cons rfl (.cons rfl (.cons rfl (.cons rfl (.cons rfl (.cons rfl (.cons rfl (.cons rfl (.cons rfl (.cons rfl (.cons rfl (.cons rfl (.cons rfl (.cons rfl (.cons rfl (.cons rfl (.cons rfl (.cons rfl (.cons rfl (.cons rfl (.cons rfl (.cons rfl (.cons rfl (.cons rfl (.cons rfl (.cons rfl .nil))))))))))))))))))))))))))))))))))))))))))))))))))))))) (gx_perm (by first | exact .refl _ | (repeat (first | exact .refl _ | refine perm_take (by first | exact .head | exact .tail .head | exact .tail (.tail .head) | exact .tail (.tail (.tail .head)) | exact .tail (.tail (.tail (.tail .head))) | exact .tail (.tail (.tail (.tail (.tail .head))))) ?_ | refine perm_takeL (by repeat (first | exact .app | exact .here | apply TakeL.tail | apply TakeL.appr)) ?_ | refine perm_takeX (by repeat (first | exact .cons .head .nil | apply TakeL.tail | apply TakeL.appr)) ?_))) (hD2  True.intro))
                    · skip
                      refine gs_pure (enters kcall26 (.cons rfl .nil)) (of_spec al[i].t al[i].num al[i].un al[i].ra al[i].n al[i].c (min al[i].n 10) rfl (hal _ (List.getElem_mem hil)).2.1) rfl rfl rfl (fun _ _ => trivial) ?_
                      refine ga_branch (rs := [2, 6]) (by kernel_rfl) rfl (.cons (ls' := [true, true, true, true, true, true, false, false]) rfl rfl ?_ (.cons (ls' := [true, true, false, true, true, true, true, false]) rfl rfl ?_ .nil))
                      · skip
                        refine gs_val (val_load1 kag3 rfl (sees_mem (by repeat (first | exact .head _ | refine .tail _ ?_ | refine List.mem_append_right _ ?_))) rfl) rfl rfl rfl ?_
                        refine gx_env (F := [(1, _), (5, _), (7, _), (8, _), (9, _), (10, _), (12, _), (13, _), (35, _), (36, _), (37, _), (38, _), (39, _), (40, _), (41, _), (42, _), (45, _), (46, _), (47, _), (48, _), (49, _), (50, _), (51, _), (52, _), (53, _), (54, _), (55, _), (56, _), (57, _), (58, _), (59, _), (60, _), (61, _), (62, _), (63, _), (64, _), (65, _), (66, _), (67, _), (68, _), (69, _), (70, _), (71, _), (72, _), (73, _), (74, _), (81, _), (82, _), (83, _), (84, _), (85, _), (86, _), (87, _), (88, _), (89, _), (90, _)]) (.cons rfl (.cons rfl (.cons rfl (.cons rfl (.cons rfl (.cons rfl (.cons rfl (.cons rfl (.cons rfl (.cons rfl (.cons rfl (.cons rfl (.cons rfl (.cons rfl (.cons rfl (.cons rfl (.cons rfl (.cons rfl (.cons rfl (.cons rfl (.cons rfl (.cons rfl (.cons rfl (.cons rfl (.cons rfl (.cons rfl (.cons rfl (.cons rfl (.cons rfl (.cons rfl (.cons rfl (.cons rfl (.cons rfl (.cons rfl (.cons rfl (.cons rfl (.cons rfl (.cons rfl (.cons rfl (.cons rfl (.cons rfl (.cons rfl (.cons rfl (.cons rfl (.cons rfl (.cons rfl (.cons rfl (.cons rfl (.cons rfl (.cons rfl (.cons rfl (.cons rfl (.cons rfl (.cons rfl (.cons rfl (.cons rfl .nil)))))))))))))))))))))))))))))))))))))))))))))))))))))))) (gx_perm (by first | exact .refl _ | (repeat (first | exact .refl _ | refine perm_take (by first | exact .head | exact .tail .head | exact .tail (.tail .head) | exact .tail (.tail (.tail .head)) | exact .tail (.tail (.tail (.tail .head))) | exact .tail (.tail (.tail (.tail (.tail .head))))) ?_ | refine perm_takeL (by repeat (first | exact .app | exact .here | apply TakeL.tail | apply TakeL.appr)) ?_ | refine perm_takeX (by repeat (first | exact .cons .head .nil | apply TakeL.tail | apply TakeL.appr)) ?_))) (hD1  True.intro))
                      · skip
                        refine gs_makes (enters kcall25 (.cons rfl .nil)) (to_spec al[i].t al[i].num al[i].un al[i].ra (min al[i].n 10) al[i].c (al[i].ad.take (min al[i].n 10)) (by rw [List.length_take, (hal _ (List.getElem_mem hil)).1]; omega) (by omega)) rfl rfl rfl (row_of_sees (((sees_row (hpre.2.2 _ (List.getElem_mem hil))).take (min al[i].n 10)).cast (ds := (al[i].ad.take (min al[i].n 10)).map I64) (by rw [List.map_take]))) (fun ⟨ta, tc, tN⟩ hto => ?_)
                        have hto : Own 3 1 ta (min al[i].n 10) tc ((al[i].ad.take (min al[i].n 10)).map I64) tN := hto
                        have hal1 := (hal _ (List.getElem_mem hil)).1
                        refine ga_branch (rs := [2]) (by kernel_rfl) rfl (.cons (ls' := [true, true, true, true, true, true, true, false]) rfl rfl ?_ .nil)
                        refine gs_val (val_load1 kag3 rfl (sees_mem (by repeat (first | exact .head _ | refine .tail _ ?_ | refine List.mem_append_right _ ?_))) rfl) rfl rfl rfl ?_
                        refine gx_env (F := [(1, _), (5, _), (7, _), (8, _), (9, _), (10, _), (12, _), (13, _), (35, _), (36, _), (37, _), (38, _), (39, _), (40, _), (41, _), (42, _), (45, _), (46, _), (47, _), (48, _), (49, _), (50, _), (51, _), (52, _), (53, _), (54, _), (55, _), (56, _), (57, _), (58, _), (59, _), (60, _), (61, _), (62, _), (63, _), (64, _), (65, _), (66, _), (67, _), (68, _), (69, _), (70, _), (71, _), (72, _), (73, _), (74, _), (81, _), (82, _), (83, _), (84, _), (85, _), (86, _), (87, _), (88, _), (89, _), (90, _), (91, _)]) (.cons rfl (.cons rfl (.cons rfl (.cons rfl (.cons rfl (.cons rfl (.cons rfl (.cons rfl (.cons rfl (.cons rfl (.cons rfl (.cons rfl (.cons rfl (.cons rfl (.cons rfl (.cons rfl (.cons rfl (.cons rfl (.cons rfl (.cons rfl (.cons rfl (.cons rfl (.cons rfl (.cons rfl (.cons rfl (.cons rfl (.cons rfl (.cons rfl (.cons rfl (.cons rfl (.cons rfl (.cons rfl (.cons rfl (.cons rfl (.cons rfl (.cons rfl (.cons rfl (.cons rfl (.cons rfl (.cons rfl (.cons rfl (.cons rfl (.cons rfl (.cons rfl (.cons rfl (.cons rfl (.cons rfl (.cons rfl (.cons rfl (.cons rfl (.cons rfl (.cons rfl (.cons rfl (.cons rfl (.cons rfl (.cons rfl (.cons rfl .nil))))))))))))))))))))))))))))))))))))))))))))))))))))))))) (gx_perm (by first | exact .refl _ | (repeat (first | exact .refl _ | refine perm_take (by first | exact .head | exact .tail .head | exact .tail (.tail .head) | exact .tail (.tail (.tail .head)) | exact .tail (.tail (.tail (.tail .head))) | exact .tail (.tail (.tail (.tail (.tail .head))))) ?_ | refine perm_takeL (by repeat (first | exact .app | exact .here | apply TakeL.tail | apply TakeL.appr)) ?_ | refine perm_takeX (by repeat (first | exact .cons .head .nil | apply TakeL.tail | apply TakeL.appr)) ?_))) (hD0 ta tc tN (And.intro hto True.intro)))
                · rintro  _
                  refine ga_branch (rs := [5]) (by kernel_rfl) rfl (.cons (ls' := [true, true, true, true, true, true, false, false]) rfl rfl ?_ .nil)
                  refine gs_pure (enters kcall26 (.cons rfl .nil)) (of_spec al[i].t al[i].num al[i].un al[i].ra al[i].n al[i].c (min al[i].n 10) rfl (hal _ (List.getElem_mem hil)).2.1) rfl rfl rfl (fun _ _ => trivial) ?_
                  refine gx_env (F := [(1, _), (5, _), (7, _), (8, _), (9, _), (10, _), (12, _), (13, _), (35, _), (36, _), (37, _), (38, _), (39, _), (40, _), (41, _), (42, _), (45, _), (46, _), (47, _), (48, _), (49, _), (50, _), (51, _), (52, _), (53, _), (54, _), (55, _), (56, _), (57, _), (58, _), (59, _), (60, _), (61, _), (62, _), (63, _), (64, _), (65, _), (66, _), (67, _), (68, _), (69, _), (70, _), (71, _), (72, _), (73, _), (74, _), (81, _), (82, _), (83, _), (84, _), (85, _), (86, _), (87, _), (88, _), (89, _), (90, _)]) (.cons rfl (.cons rfl (.cons rfl (.cons rfl (.cons rfl (.cons rfl (.cons rfl (.cons rfl (.cons rfl (.cons rfl (.cons rfl (.cons rfl (.cons rfl (.cons rfl (.cons rfl (.cons rfl (.cons rfl (.cons rfl (.cons rfl (.cons rfl (.cons rfl (.cons rfl (.cons rfl (.cons rfl (.cons rfl (.cons rfl (.cons rfl (.cons rfl (.cons rfl (.cons rfl (.cons rfl (.cons rfl (.cons rfl (.cons rfl (.cons rfl (.cons rfl (.cons rfl (.cons rfl (.cons rfl (.cons rfl (.cons rfl (.cons rfl (.cons rfl (.cons rfl (.cons rfl (.cons rfl (.cons rfl (.cons rfl (.cons rfl (.cons rfl (.cons rfl (.cons rfl (.cons rfl (.cons rfl (.cons rfl (.cons rfl .nil)))))))))))))))))))))))))))))))))))))))))))))))))))))))) (gx_perm (by first | exact .refl _ | (repeat (first | exact .refl _ | refine perm_take (by first | exact .head | exact .tail .head | exact .tail (.tail .head) | exact .tail (.tail (.tail .head)) | exact .tail (.tail (.tail (.tail .head))) | exact .tail (.tail (.tail (.tail (.tail .head))))) ?_ | refine perm_takeL (by repeat (first | exact .app | exact .here | apply TakeL.tail | apply TakeL.appr)) ?_ | refine perm_takeX (by repeat (first | exact .cons .head .nil | apply TakeL.tail | apply TakeL.appr)) ?_))) (hD1  True.intro))
              · rintro  _
                refine ga_branch (rs := [6]) (by kernel_rfl) rfl (.cons (ls' := [true, true, true, true, true, true, true, false]) rfl rfl ?_ .nil)
                refine gs_makes (enters kcall25 (.cons rfl .nil)) (to_spec al[i].t al[i].num al[i].un al[i].ra (min al[i].n 10) al[i].c (al[i].ad.take (min al[i].n 10)) (by rw [List.length_take, (hal _ (List.getElem_mem hil)).1]; omega) (by omega)) rfl rfl rfl (row_of_sees (((sees_row (hpre.2.2 _ (List.getElem_mem hil))).take (min al[i].n 10)).cast (ds := (al[i].ad.take (min al[i].n 10)).map I64) (by rw [List.map_take]))) (fun ⟨ta, tc, tN⟩ hto => ?_)
                have hto : Own 3 1 ta (min al[i].n 10) tc ((al[i].ad.take (min al[i].n 10)).map I64) tN := hto
                have hal1 := (hal _ (List.getElem_mem hil)).1
                refine gx_env (F := [(1, _), (5, _), (7, _), (8, _), (9, _), (10, _), (12, _), (13, _), (35, _), (36, _), (37, _), (38, _), (39, _), (40, _), (41, _), (42, _), (45, _), (46, _), (47, _), (48, _), (49, _), (50, _), (51, _), (52, _), (53, _), (54, _), (55, _), (56, _), (57, _), (58, _), (59, _), (60, _), (61, _), (62, _), (63, _), (64, _), (65, _), (66, _), (67, _), (68, _), (69, _), (70, _), (71, _), (72, _), (73, _), (74, _), (81, _), (82, _), (83, _), (84, _), (85, _), (86, _), (87, _), (88, _), (89, _), (90, _), (91, _)]) (.cons rfl (.cons rfl (.cons rfl (.cons rfl (.cons rfl (.cons rfl (.cons rfl (.cons rfl (.cons rfl (.cons rfl (.cons rfl (.cons rfl (.cons rfl (.cons rfl (.cons rfl (.cons rfl (.cons rfl (.cons rfl (.cons rfl (.cons rfl (.cons rfl (.cons rfl (.cons rfl (.cons rfl (.cons rfl (.cons rfl (.cons rfl (.cons rfl (.cons rfl (.cons rfl (.cons rfl (.cons rfl (.cons rfl (.cons rfl (.cons rfl (.cons rfl (.cons rfl (.cons rfl (.cons rfl (.cons rfl (.cons rfl (.cons rfl (.cons rfl (.cons rfl (.cons rfl (.cons rfl (.cons rfl (.cons rfl (.cons rfl (.cons rfl (.cons rfl (.cons rfl (.cons rfl (.cons rfl (.cons rfl (.cons rfl (.cons rfl .nil))))))))))))))))))))))))))))))))))))))))))))))))))))))))) (gx_perm (by first | exact .refl _ | (repeat (first | exact .refl _ | refine perm_take (by first | exact .head | exact .tail .head | exact .tail (.tail .head) | exact .tail (.tail (.tail .head)) | exact .tail (.tail (.tail (.tail .head))) | exact .tail (.tail (.tail (.tail (.tail .head))))) ?_ | refine perm_takeL (by repeat (first | exact .app | exact .here | apply TakeL.tail | apply TakeL.appr)) ?_ | refine perm_takeX (by repeat (first | exact .cons .head .nil | apply TakeL.tail | apply TakeL.appr)) ?_))) (hD0 ta tc tN (And.intro hto True.intro)))
            · rintro ta tc tN ⟨hto, _⟩
              refine ga_branch (rs := [7]) (by kernel_rfl) rfl (.cons (ls' := [true, true, true, true, true, true, true, true]) rfl rfl ?_ .nil)
              refine gs_turns (enters kcall24 (.cons rfl (.cons rfl (.cons rfl .nil)))) ((by have h9 := askK_spec b s Lb hb ok al[i].h al[i].t al[i].num al[i].un ta tc (al[i].ad.take (min al[i].n 10)) (by rw [List.length_take]; omega); rw [show (al[i].ad.take (min al[i].n 10)).length = min al[i].n 10 by rw [List.length_take, (hal _ (List.getElem_mem hil)).1]; omega] at h9; exact h9)) rfl rfl rfl (.appr (.tail .app)) (row_of_ownL hto (.appr (.tail .app)) .app) (fun L2 hb2 => ?_)
              have hb2 : BK 154 157 3 4 b (askS s al[i].h al[i].t al[i].num al[i].un (al[i].ad.take (min al[i].n 10))) L2 := hb2
              have ok2 := askS_ok (now := al[i].h) (rt := al[i].t) (rn := al[i].num) (ru := al[i].un) (rad := (al[i].ad.take (min al[i].n 10))) ok
              have e2 : heldS (askS s al[i].h al[i].t al[i].num al[i].un (al[i].ad.take (min al[i].n 10))) = heldS s := held_ask
              obtain ⟨s2, hs2⟩ : ∃ z, askS s al[i].h al[i].t al[i].num al[i].un (al[i].ad.take (min al[i].n 10)) = z := ⟨_, rfl⟩
              rw [hs2] at hb2 ok2 e2
              have hh2 := held_bound ok2
              refine ga_done (by kernel_rfl) ?_
              refine gk_block ?_
              refine gk_seq ?_
              refine gc_seq ?_
              refine gc_region ?_
              refine gl_cons (gs_val (val_move rfl) rfl rfl rfl ?_)
              refine gl_cons (gs_turns (enters kcall22 (.cons rfl .nil)) (heldK_spec b s2 L2 hb2 ok2) rfl rfl rfl (by first | exact .app | exact (.tail .app)) (fun _ _ => trivial) (fun _ _ => ?_))
              refine gl_cons (gs_val (val_move rfl) rfl rfl rfl ?_)
              refine gl_cons (gs_val (val_no (val_neq rfl rfl) (by omega)) rfl rfl rfl ?_)
              refine gl_cons (gs_val (val_move rfl) rfl rfl rfl ?_)
              refine gl_cons (gs_val (val_move rfl) rfl rfl rfl ?_)
              refine gl_cons (gs_turns (enters kcall29 (.cons rfl .nil)) (potK_spec b s2 L2 hb2 ok2) rfl rfl rfl .app (fun _ _ => trivial) (fun _ _ => ?_))
              refine gl_cons (gs_val (val_move rfl) rfl rfl rfl ?_)
              refine gl_cons (gs_val (val_no (val_gtr rfl rfl) (by omega)) rfl rfl rfl ?_)
              refine gl_cons (gs_val (val_pick_f rfl rfl) rfl rfl rfl ?_)
              refine gl_cons (gs_val (val_move rfl) rfl rfl rfl ?_)
              refine gl_cons (gs_val (val_move rfl) rfl rfl rfl ?_)
              refine gl_cons (gs_turns (enters kcall29 (.cons rfl .nil)) (potK_spec b s2 L2 hb2 ok2) rfl rfl rfl .app (fun _ _ => trivial) (fun _ _ => ?_))
              refine gl_cons (gs_val (val_no (val_lss rfl rfl) (by omega)) rfl rfl rfl ?_)
              refine gl_cons (gs_val (val_pick_f rfl rfl) rfl rfl rfl ?_)
              refine gl_nil ?_
              refine gk_seq ?_
              refine gc_false rfl ?_
              refine gc_skip ?_
              refine gk_block ?_
              refine gk_seq ?_
              refine gc_region ?_
              refine gl_cons (gs_val (val_move rfl) rfl rfl rfl ?_)
              refine gl_cons (gs_val (val_addI rfl rfl (by omega)) rfl rfl rfl ?_)
              refine gl_cons (gs_val (val_assign rfl) rfl rfl rfl ?_)
              refine gl_nil ?_
              refine gk_again (i + 1, s2, L2) ?_ ?_ ?_ ?_
              · exact ⟨by show i + 1 ≤ k; omega, hb2, ok2⟩
              · show k - (i + 1) < k - i; omega
              · refine .cons rfl (.cons (congrArg (fun z => some (I64 z)) (by show _ = heldS s2; omega)) ?_); repeat (first | exact .nil | refine .cons rfl ?_)
              · first | exact fun _ h => h.sub (List.Sublist.append_left (List.nil_sublist _) L2) | exact fun _ h => h.sub (.cons _ (List.Sublist.append_left (List.nil_sublist _) L2))
          · skip
            refine gc_seq ?_
            refine gc_region ?_
            refine gl_cons (gs_val (val_eql rfl rfl) rfl rfl rfl ?_)
            refine gl_cons (gs_val (val_assign rfl) rfl rfl rfl ?_)
            refine gl_nil ?_
            refine gk_seq ?_
            refine gc_if rfl (fun hk1 => ?_) (fun hk1 => ?_)
            · skip
              refine gc_seq ?_
              refine gc_region ?_
              refine gl_cons (gs_val (val_move rfl) rfl rfl rfl ?_)
              refine gl_cons (gs_val (val_fieldAddr kfo35_1 rfl) rfl rfl rfl ?_)
              refine gl_cons (gs_val (val_load1 kag3 rfl (sees_mem (by repeat (first | exact .head _ | refine .tail _ ?_ | refine List.mem_append_right _ ?_))) rfl) rfl rfl rfl ?_)
              refine gl_cons (gs_val (val_fieldAddr kfo35_2 rfl) rfl rfl rfl ?_)
              refine gl_cons (gs_val (val_load1 kag3 rfl (sees_mem (by repeat (first | exact .head _ | refine .tail _ ?_ | refine List.mem_append_right _ ?_))) rfl) rfl rfl rfl ?_)
              refine gl_cons (gs_val (val_move rfl) rfl rfl rfl ?_)
              refine gl_cons (gs_turns (enters kcall27 (.cons rfl (.cons rfl (.cons rfl (.cons rfl .nil))))) (putK_spec b s Lb hb ok al[i].h al[i].s al[i].m) rfl rfl rfl (.tail .app) (fun _ _ => trivial) (fun L2 hb2 => ?_))
              have hb2 : BK 154 157 3 4 b (putS s al[i].h al[i].s al[i].m) L2 := hb2
              have hp2 := held_put (now := al[i].h) (seat := al[i].s) (amt := al[i].m) ok
              have ok2 := putS_ok (now := al[i].h) (seat := al[i].s) (amt := al[i].m) ok
              obtain ⟨pe, hpe⟩ : ∃ z, putE s al[i].h al[i].s al[i].m = z := ⟨_, rfl⟩
              obtain ⟨s2, hs2⟩ : ∃ z, putS s al[i].h al[i].s al[i].m = z := ⟨_, rfl⟩
              rw [hs2] at hb2 ok2 hp2
              rw [hpe] at hp2 ⊢
              have hh2 := held_bound ok2
              refine gl_cons (gs_val (val_eql rfl rfl) rfl rfl rfl ?_)
              refine gl_nil ?_
              refine gk_seq ?_
              refine gc_if rfl (fun h102 => ?_) (fun h102 => ?_)
              · have e2 := hp2.1 h102
                refine gc_region ?_
                refine gl_cons (gs_val (val_move rfl) rfl rfl rfl ?_)
                refine gl_cons (gs_val (val_move rfl) rfl rfl rfl ?_)
                refine gl_cons (gs_val (val_addI rfl rfl (by omega)) rfl rfl rfl ?_)
                refine gl_cons (gs_val (val_assign rfl) rfl rfl rfl ?_)
                refine gl_nil ?_
                refine gk_block ?_
                refine gk_seq ?_
                refine gc_seq ?_
                refine gc_region ?_
                refine gl_cons (gs_val (val_move rfl) rfl rfl rfl ?_)
                refine gl_cons (gs_turns (enters kcall22 (.cons rfl .nil)) (heldK_spec b s2 L2 hb2 ok2) rfl rfl rfl (by first | exact .app | exact (.tail .app)) (fun _ _ => trivial) (fun _ _ => ?_))
                refine gl_cons (gs_val (val_move rfl) rfl rfl rfl ?_)
                refine gl_cons (gs_val (val_no (val_neq rfl rfl) (by omega)) rfl rfl rfl ?_)
                refine gl_cons (gs_val (val_move rfl) rfl rfl rfl ?_)
                refine gl_cons (gs_val (val_move rfl) rfl rfl rfl ?_)
                refine gl_cons (gs_turns (enters kcall29 (.cons rfl .nil)) (potK_spec b s2 L2 hb2 ok2) rfl rfl rfl .app (fun _ _ => trivial) (fun _ _ => ?_))
                refine gl_cons (gs_val (val_move rfl) rfl rfl rfl ?_)
                refine gl_cons (gs_val (val_no (val_gtr rfl rfl) (by omega)) rfl rfl rfl ?_)
                refine gl_cons (gs_val (val_pick_f rfl rfl) rfl rfl rfl ?_)
                refine gl_cons (gs_val (val_move rfl) rfl rfl rfl ?_)
                refine gl_cons (gs_val (val_move rfl) rfl rfl rfl ?_)
                refine gl_cons (gs_turns (enters kcall29 (.cons rfl .nil)) (potK_spec b s2 L2 hb2 ok2) rfl rfl rfl .app (fun _ _ => trivial) (fun _ _ => ?_))
                refine gl_cons (gs_val (val_no (val_lss rfl rfl) (by omega)) rfl rfl rfl ?_)
                refine gl_cons (gs_val (val_pick_f rfl rfl) rfl rfl rfl ?_)
                refine gl_nil ?_
                refine gk_seq ?_
                refine gc_false rfl ?_
                refine gc_skip ?_
                refine gk_block ?_
                refine gk_seq ?_
                refine gc_region ?_
                refine gl_cons (gs_val (val_move rfl) rfl rfl rfl ?_)
                refine gl_cons (gs_val (val_addI rfl rfl (by omega)) rfl rfl rfl ?_)
                refine gl_cons (gs_val (val_assign rfl) rfl rfl rfl ?_)
                refine gl_nil ?_
                refine gk_again (i + 1, s2, L2) ?_ ?_ ?_ ?_
                · exact ⟨by show i + 1 ≤ k; omega, hb2, ok2⟩
                · show k - (i + 1) < k - i; omega
                · refine .cons rfl (.cons (congrArg (fun z => some (I64 z)) (by show _ = heldS s2; omega)) ?_); repeat (first | exact .nil | refine .cons rfl ?_)
                · first | exact fun _ h => h.sub (List.Sublist.append_left (List.nil_sublist _) L2) | exact fun _ h => h.sub (.cons _ (List.Sublist.append_left (List.nil_sublist _) L2))
              · have e2 : heldS s2 = heldS s := congrArg heldS (hp2.2 h102)
                refine gc_skip ?_
                refine gk_block ?_
                refine gk_seq ?_
                refine gc_seq ?_
                refine gc_region ?_
                refine gl_cons (gs_val (val_move rfl) rfl rfl rfl ?_)
                refine gl_cons (gs_turns (enters kcall22 (.cons rfl .nil)) (heldK_spec b s2 L2 hb2 ok2) rfl rfl rfl (by first | exact .app | exact (.tail .app)) (fun _ _ => trivial) (fun _ _ => ?_))
                refine gl_cons (gs_val (val_move rfl) rfl rfl rfl ?_)
                refine gl_cons (gs_val (val_no (val_neq rfl rfl) (by omega)) rfl rfl rfl ?_)
                refine gl_cons (gs_val (val_move rfl) rfl rfl rfl ?_)
                refine gl_cons (gs_val (val_move rfl) rfl rfl rfl ?_)
                refine gl_cons (gs_turns (enters kcall29 (.cons rfl .nil)) (potK_spec b s2 L2 hb2 ok2) rfl rfl rfl .app (fun _ _ => trivial) (fun _ _ => ?_))
                refine gl_cons (gs_val (val_move rfl) rfl rfl rfl ?_)
                refine gl_cons (gs_val (val_no (val_gtr rfl rfl) (by omega)) rfl rfl rfl ?_)
                refine gl_cons (gs_val (val_pick_f rfl rfl) rfl rfl rfl ?_)
                refine gl_cons (gs_val (val_move rfl) rfl rfl rfl ?_)
                refine gl_cons (gs_val (val_move rfl) rfl rfl rfl ?_)
                refine gl_cons (gs_turns (enters kcall29 (.cons rfl .nil)) (potK_spec b s2 L2 hb2 ok2) rfl rfl rfl .app (fun _ _ => trivial) (fun _ _ => ?_))
                refine gl_cons (gs_val (val_no (val_lss rfl rfl) (by omega)) rfl rfl rfl ?_)
                refine gl_cons (gs_val (val_pick_f rfl rfl) rfl rfl rfl ?_)
                refine gl_nil ?_
                refine gk_seq ?_
                refine gc_false rfl ?_
                refine gc_skip ?_
                refine gk_block ?_
                refine gk_seq ?_
                refine gc_region ?_
                refine gl_cons (gs_val (val_move rfl) rfl rfl rfl ?_)
                refine gl_cons (gs_val (val_addI rfl rfl (by omega)) rfl rfl rfl ?_)
                refine gl_cons (gs_val (val_assign rfl) rfl rfl rfl ?_)
                refine gl_nil ?_
                refine gk_again (i + 1, s2, L2) ?_ ?_ ?_ ?_
                · exact ⟨by show i + 1 ≤ k; omega, hb2, ok2⟩
                · show k - (i + 1) < k - i; omega
                · refine .cons rfl (.cons (congrArg (fun z => some (I64 z)) (by show _ = heldS s2; omega)) ?_); repeat (first | exact .nil | refine .cons rfl ?_)
                · first | exact fun _ h => h.sub (List.Sublist.append_left (List.nil_sublist _) L2) | exact fun _ h => h.sub (.cons _ (List.Sublist.append_left (List.nil_sublist _) L2))
            · skip
              refine gc_seq ?_
              refine gc_region ?_
              refine gl_cons (gs_val (val_eql rfl rfl) rfl rfl rfl ?_)
              refine gl_cons (gs_val (val_assign rfl) rfl rfl rfl ?_)
              refine gl_nil ?_
              refine gk_seq ?_
              refine gc_if rfl (fun hk2 => ?_) (fun hk2 => ?_)
              · skip
                refine gc_seq ?_
                refine gc_region ?_
                refine gl_cons (gs_val (val_move rfl) rfl rfl rfl ?_)
                refine gl_cons (gs_val (val_fieldAddr kfo35_1 rfl) rfl rfl rfl ?_)
                refine gl_cons (gs_val (val_load1 kag3 rfl (sees_mem (by repeat (first | exact .head _ | refine .tail _ ?_ | refine List.mem_append_right _ ?_))) rfl) rfl rfl rfl ?_)
                refine gl_cons (gs_val (val_fieldAddr kfo35_2 rfl) rfl rfl rfl ?_)
                refine gl_cons (gs_val (val_load1 kag3 rfl (sees_mem (by repeat (first | exact .head _ | refine .tail _ ?_ | refine List.mem_append_right _ ?_))) rfl) rfl rfl rfl ?_)
                refine gl_cons (gs_turns (enters kcall28 (.cons rfl (.cons rfl (.cons rfl .nil)))) (backK_spec b s Lb hb ok al[i].h al[i].s) rfl rfl rfl (.tail .app) (fun _ _ => trivial) (fun L2 hb2 => ?_))
                have hb2 : BK 154 157 3 4 b (backS s al[i].h al[i].s) L2 := hb2
                have hbk := held_back (now := al[i].h) (seat := al[i].s) ok
                have ok2 := backS_ok (now := al[i].h) (seat := al[i].s) ok
                obtain ⟨s2, hs2⟩ : ∃ z, backS s al[i].h al[i].s = z := ⟨_, rfl⟩
                have e2 := hbk.1
                rw [hs2] at hb2 ok2 e2
                refine gl_cons (gs_val (val_move rfl) rfl rfl rfl ?_)
                have hh2 := held_bound ok2
                refine gl_cons (gs_val (val_extract rfl rfl) rfl rfl rfl ?_)
                refine gl_cons (gs_val (val_extract rfl rfl) rfl rfl rfl ?_)
                refine gl_cons (gs_val (val_assign rfl) rfl rfl rfl ?_)
                refine gl_cons (gs_val (val_assign rfl) rfl rfl rfl ?_)
                refine gl_nil ?_
                refine gk_seq ?_
                refine gc_seq ?_
                refine gc_seq ?_
                refine gc_region ?_
                refine gl_cons (gs_val (val_move rfl) rfl rfl rfl ?_)
                refine gl_cons (gs_val (val_eql rfl rfl) rfl rfl rfl ?_)
                refine gl_cons (gs_val (val_move rfl) rfl rfl rfl ?_)
                refine gl_cons (gs_val (val_gtr rfl rfl) rfl rfl rfl ?_)
                refine gl_cons (gs_val (val_cast (v := .bool false) (val_neqB kun4 rfl rfl) (congrArg Value.bool (back_flip ok))) rfl rfl rfl ?_)
                refine gl_nil ?_
                refine gk_seq ?_
                refine gc_false rfl ?_
                refine gc_skip ?_
                refine gk_seq ?_
                refine gc_region ?_
                refine gl_cons (gs_val (val_move rfl) rfl rfl rfl ?_)
                refine gl_cons (gs_val (val_move rfl) rfl rfl rfl ?_)
                refine gl_cons (gs_val (val_subI rfl rfl (by omega)) rfl rfl rfl ?_)
                refine gl_cons (gs_val (val_assign rfl) rfl rfl rfl ?_)
                refine gl_nil ?_
                refine gk_block ?_
                refine gk_seq ?_
                refine gc_seq ?_
                refine gc_region ?_
                refine gl_cons (gs_val (val_move rfl) rfl rfl rfl ?_)
                refine gl_cons (gs_turns (enters kcall22 (.cons rfl .nil)) (heldK_spec b s2 L2 hb2 ok2) rfl rfl rfl (by first | exact .app | exact (.tail .app)) (fun _ _ => trivial) (fun _ _ => ?_))
                refine gl_cons (gs_val (val_move rfl) rfl rfl rfl ?_)
                refine gl_cons (gs_val (val_no (val_neq rfl rfl) (by omega)) rfl rfl rfl ?_)
                refine gl_cons (gs_val (val_move rfl) rfl rfl rfl ?_)
                refine gl_cons (gs_val (val_move rfl) rfl rfl rfl ?_)
                refine gl_cons (gs_turns (enters kcall29 (.cons rfl .nil)) (potK_spec b s2 L2 hb2 ok2) rfl rfl rfl .app (fun _ _ => trivial) (fun _ _ => ?_))
                refine gl_cons (gs_val (val_move rfl) rfl rfl rfl ?_)
                refine gl_cons (gs_val (val_no (val_gtr rfl rfl) (by omega)) rfl rfl rfl ?_)
                refine gl_cons (gs_val (val_pick_f rfl rfl) rfl rfl rfl ?_)
                refine gl_cons (gs_val (val_move rfl) rfl rfl rfl ?_)
                refine gl_cons (gs_val (val_move rfl) rfl rfl rfl ?_)
                refine gl_cons (gs_turns (enters kcall29 (.cons rfl .nil)) (potK_spec b s2 L2 hb2 ok2) rfl rfl rfl .app (fun _ _ => trivial) (fun _ _ => ?_))
                refine gl_cons (gs_val (val_no (val_lss rfl rfl) (by omega)) rfl rfl rfl ?_)
                refine gl_cons (gs_val (val_pick_f rfl rfl) rfl rfl rfl ?_)
                refine gl_nil ?_
                refine gk_seq ?_
                refine gc_false rfl ?_
                refine gc_skip ?_
                refine gk_block ?_
                refine gk_seq ?_
                refine gc_region ?_
                refine gl_cons (gs_val (val_move rfl) rfl rfl rfl ?_)
                refine gl_cons (gs_val (val_addI rfl rfl (by omega)) rfl rfl rfl ?_)
                refine gl_cons (gs_val (val_assign rfl) rfl rfl rfl ?_)
                refine gl_nil ?_
                refine gk_again (i + 1, s2, L2) ?_ ?_ ?_ ?_
                · exact ⟨by show i + 1 ≤ k; omega, hb2, ok2⟩
                · show k - (i + 1) < k - i; omega
                · refine .cons rfl (.cons (congrArg (fun z => some (I64 z)) (by show _ = heldS s2; omega)) ?_); repeat (first | exact .nil | refine .cons rfl ?_)
                · first | exact fun _ h => h.sub (List.Sublist.append_left (List.nil_sublist _) L2) | exact fun _ h => h.sub (.cons _ (List.Sublist.append_left (List.nil_sublist _) L2))
              · obtain ⟨s2, rfl⟩ : ∃ z, z = s := ⟨_, rfl⟩
                obtain ⟨L2, rfl⟩ : ∃ z, z = Lb := ⟨_, rfl⟩
                have hb2 := hb
                have ok2 := ok
                have hh2 := held_bound ok2
                refine gc_skip ?_
                refine gk_block ?_
                refine gk_seq ?_
                refine gc_seq ?_
                refine gc_region ?_
                refine gl_cons (gs_val (val_move rfl) rfl rfl rfl ?_)
                refine gl_cons (gs_turns (enters kcall22 (.cons rfl .nil)) (heldK_spec b s2 L2 hb2 ok2) rfl rfl rfl (by first | exact .app | exact (.tail .app)) (fun _ _ => trivial) (fun _ _ => ?_))
                refine gl_cons (gs_val (val_move rfl) rfl rfl rfl ?_)
                refine gl_cons (gs_val (val_no (val_neq rfl rfl) (by omega)) rfl rfl rfl ?_)
                refine gl_cons (gs_val (val_move rfl) rfl rfl rfl ?_)
                refine gl_cons (gs_val (val_move rfl) rfl rfl rfl ?_)
                refine gl_cons (gs_turns (enters kcall29 (.cons rfl .nil)) (potK_spec b s2 L2 hb2 ok2) rfl rfl rfl .app (fun _ _ => trivial) (fun _ _ => ?_))
                refine gl_cons (gs_val (val_move rfl) rfl rfl rfl ?_)
                refine gl_cons (gs_val (val_no (val_gtr rfl rfl) (by omega)) rfl rfl rfl ?_)
                refine gl_cons (gs_val (val_pick_f rfl rfl) rfl rfl rfl ?_)
                refine gl_cons (gs_val (val_move rfl) rfl rfl rfl ?_)
                refine gl_cons (gs_val (val_move rfl) rfl rfl rfl ?_)
                refine gl_cons (gs_turns (enters kcall29 (.cons rfl .nil)) (potK_spec b s2 L2 hb2 ok2) rfl rfl rfl .app (fun _ _ => trivial) (fun _ _ => ?_))
                refine gl_cons (gs_val (val_no (val_lss rfl rfl) (by omega)) rfl rfl rfl ?_)
                refine gl_cons (gs_val (val_pick_f rfl rfl) rfl rfl rfl ?_)
                refine gl_nil ?_
                refine gk_seq ?_
                refine gc_false rfl ?_
                refine gc_skip ?_
                refine gk_block ?_
                refine gk_seq ?_
                refine gc_region ?_
                refine gl_cons (gs_val (val_move rfl) rfl rfl rfl ?_)
                refine gl_cons (gs_val (val_addI rfl rfl (by omega)) rfl rfl rfl ?_)
                refine gl_cons (gs_val (val_assign rfl) rfl rfl rfl ?_)
                refine gl_nil ?_
                refine gk_again (i + 1, s2, L2) ?_ ?_ ?_ ?_
                · exact ⟨by show i + 1 ≤ k; omega, hb2, ok2⟩
                · show k - (i + 1) < k - i; omega
                · refine .cons rfl (.cons (congrArg (fun z => some (I64 z)) (by show _ = heldS s2; omega)) ?_); repeat (first | exact .nil | refine .cons rfl ?_)
                · first | exact fun _ h => h.sub (List.Sublist.append_left (List.nil_sublist _) L2) | exact fun _ h => h.sub (.cons _ (List.Sublist.append_left (List.nil_sublist _) L2))
      · skip
        refine gc_exit ?_
        refine gk_seq_exit ?_
        refine gk_loop_exit ?_
        refine gk_block_exit ?_
        refine gk_seq ?_
        refine gc_seq ?_
        refine gc_region ?_
        refine gl_cons (gs_pure (enters kcall21 .nil) (known_spec) rfl rfl rfl (fun _ _ => trivial) ?_)
        refine gl_cons (gs_val (val_assign rfl) rfl rfl rfl ?_)
        refine gl_nil ?_
        refine gk_seq ?_
        refine gc_ret ?_
        refine gk_ret rfl (resv_tmp rfl .nil) (List.nil_sublist _) ?_
        exact ⟨rfl, rfl⟩
    · skip
      refine gl_cons (gs_skip rfl rfl rfl ?_)
      refine gl_cons (gs_skip rfl rfl rfl ?_)
      refine gl_cons (gs_val (val_pick_f rfl rfl) rfl rfl rfl ?_)
      refine gl_nil ?_
      refine gk_seq ?_
      refine gc_false rfl ?_
      refine gc_exit ?_
      refine gk_seq_exit ?_
      refine gk_loop_exit ?_
      refine gk_block_exit ?_
      refine gk_seq ?_
      refine gc_seq ?_
      refine gc_region ?_
      refine gl_cons (gs_pure (enters kcall21 .nil) (known_spec) rfl rfl rfl (fun _ _ => trivial) ?_)
      refine gl_cons (gs_val (val_assign rfl) rfl rfl rfl ?_)
      refine gl_nil ?_
      refine gk_seq ?_
      refine gc_ret ?_
      refine gk_ret rfl (resv_tmp rfl .nil) (List.nil_sublist _) ?_
      exact ⟨rfl, rfl⟩

theorem topupSums_walk (ba : Option Addr) (n c : Nat) (l : List Int) (hn : l.length = n) (hcn : n ≤ c) (bb : Option Addr) (k cb : Nat) (al : List Ac) (hk : al.length = k) (hal : ∀ a ∈ al, a.ad.length = a.n ∧ a.n ≤ a.c ∧ a.n ≤ 140737488351232) : Pure Try.prog 3 ([.slice ba n c, .slice bb k cb]).toArray (fun w => Row w [] ba (l.map I64) ∧ Row w [] bb (al.flatMap Ac.L) ∧ ∀ a ∈ al, Row w [] a.ra (a.ad.map I64)) (.bool true) := by
  by_cases he : newE (min n 10) (l.take (min n 10)) = 0
  · exact topupSums_ok ba n c l hn hcn bb k cb al hk hal _ rfl he
  · exact topupSums_no ba n c l hn hcn bb k cb al hk hal _ rfl he

end Go.Proofs.Ytddckbhlfeegoaa
