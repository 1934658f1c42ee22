/- The walk of functions of the program: what each computes, for every input. -/
import Derived.Test.YtddckbhlfeegoaaWBFacts
import Derived.Test.YtddckbhlfeegoaaWBtopup1
namespace Go.Proofs.Ytddckbhlfeegoaa
open Go Go.Eng
set_option linter.unusedVariables false
set_option linter.unusedSimpArgs false

/-- baize/topup.first -/
theorem first_spec (ba : Option Addr) (n c : Nat) (rs : List Ru) (e : Int) (Pre : World → Prop) (hst : Stable Pre) (hall0 : AllR Try.prog Pre rs e) (hn : rs.length = n) (hb : n ≤ 100) : Pure Try.prog 79 ([.slice ba n c]).toArray (fun w => Row w [] ba (rs.flatMap Ru.L) ∧ Pre w) (I64 e) := by
  refine spec_walk (n := 20) Try.func79 rfl rfl rfl (fun w0 hpre => ?_)
  refine gc_seq ?_
  refine gc_region ?_
  refine gl_cons (gs_val (val_assign rfl) rfl rfl rfl ?_)
  refine gl_nil ?_
  refine gk_seq ?_
  refine gc_scope ?_
  refine gc_seq ?_
  refine gc_region ?_
  refine gl_cons (gs_val (val_assign rfl) rfl rfl rfl ?_)
  refine gl_nil ?_
  refine gk_seq ?_
  refine gc_seq ?_
  refine gc_label ?_
  refine gk_seq ?_
  refine gc_seq ?_
  refine gc_seq ?_
  refine gc_region ?_
  refine gl_cons (gs_val (val_move rfl) rfl rfl rfl ?_)
  refine gl_cons (gs_val (val_lenSli ksl158 rfl) rfl rfl rfl ?_)
  refine gl_cons (gs_val (val_move rfl) rfl rfl rfl ?_)
  refine gl_nil ?_
  refine gk_seq ?_
  refine gc_block ?_
  refine gc_loop (σ := Nat) (I := fun v => v ≤ n ∧ AllR Try.prog Pre (rs.drop v) e) (μ := fun v => n - v) (EI := fun v => [(8, I64 (v : Int)), (7, I64 (n : Int)), (3, I64 0), (2, .int .i64 0), (6, .slice ba n c)]) (LI := fun v => []) 0 ?_ ?_ ?_ ?_
  · exact ⟨Nat.zero_le _, hall0⟩
  · exact (.cons rfl (.cons rfl (.cons rfl (.cons rfl (.cons rfl .nil)))))
  · exact fun _ h => h
  · intro k ⟨hkn', hall⟩
    have hkn' : k ≤ n := hkn'
    refine gc_seq ?_
    refine gc_region ?_
    refine gl_cons (gs_val (val_lss rfl rfl) rfl rfl rfl ?_)
    refine gl_nil ?_
    refine gk_seq ?_
    refine gc_seq ?_
    refine gc_if rfl (fun hj => ?_) (fun hj => ?_)
    · have hkl : k < rs.length := by omega
      obtain ⟨ab, ao, hab⟩ := row_addr hpre.1 (by rw [flatK_len ru_len]; omega)
      obtain ⟨hcl, b, hpu, hb1, hb2⟩ := hall.at hkl
      refine gc_skip ?_
      refine gk_seq ?_
      refine gc_seq ?_
      refine gc_block ?_
      refine gc_seq ?_
      refine gc_region ?_
      refine gl_cons (gs_val (val_cast (v := .pointer (some ⟨ab, ao + k * 2, none⟩)) (val_indexSli (m := k) ksl158 rfl rfl rfl (by omega) (sees_row hpre.1) (by rw [flatK_len ru_len]; omega)) (idx_eq hab)) rfl rfl rfl ?_)
      refine gl_cons (gs_val (val_loadA (ds := rs[k].L) kag148 rfl ((sees_row hpre.1).rowK ru_len hab hkl) rfl rfl) rfl rfl rfl ?_)
      refine gl_cons (gs_alloc kze148 rfl rfl rfl (fun rx => ?_))
      refine gl_cons (gs_store ksz148 rfl rfl rfl rfl rfl rfl (by first | exact .head | exact .tail .head | exact .tail (.tail .head) | exact .tail (.tail (.tail .head)) | exact .tail (.tail (.tail (.tail .head))) | exact .tail (.tail (.tail (.tail (.tail .head))))) (by simp) (by first | ((with_reducible refine splice_all _ _ ?_); simp; done) | (simp only [splice, stL, digL, List.take_succ_cons, List.take_zero, List.drop_succ_cons, List.drop_zero, List.length_cons, List.length_nil, Nat.reduceAdd, Nat.reduceMul, Nat.zero_add, Nat.zero_mul, List.cons_append, List.nil_append]; exact rfl)) ?_)
      refine gl_nil ?_
      refine gk_seq ?_
      refine gc_seq ?_
      by_cases hbt : b = true
      · skip
        refine gc_region ?_
        refine gl_cons (gs_val (val_fieldAddr kfo148_0 rfl) rfl rfl rfl ?_)
        refine gl_cons (gs_val (val_load1 kag28 rfl (sees_mem (by repeat (first | exact .head _ | refine .tail _ ?_ | refine List.mem_append_right _ ?_))) rfl) rfl rfl rfl ?_)
        refine gl_cons (gs_pure (enters_dyn (fs := []) (cs := rs[k].caps) hcl rfl .nil) ((show Eng.Pure Try.prog rs[k].f rs[k].caps.toArray Pre (.bool true) by rw [hbt] at hpu; exact hpu)) rfl rfl rfl (fun w hi => hst _ _ _ _ rfl hi hpre.2) ?_)
        refine gl_cons (gs_val (val_not rfl) rfl rfl rfl ?_)
        refine gl_nil ?_
        refine gk_seq ?_
        refine gc_false rfl ?_
        refine gc_skip ?_
        refine gk_block ?_
        refine gk_seq ?_
        refine gc_region ?_
        refine gl_cons (gs_val (val_addI rfl rfl (by omega)) rfl rfl rfl ?_)
        refine gl_cons (gs_val (val_move rfl) rfl rfl rfl ?_)
        refine gl_nil ?_
        refine gk_again (k + 1) ?_ ?_ ?_ ?_
        · exact ⟨by show k + 1 ≤ n; omega, hb1 hbt⟩
        · show n - (k + 1) < n - k; omega
        · exact (.cons (rfl) (.cons (rfl) (.cons (rfl) (.cons (rfl) (.cons (rfl) .nil)))))
        · exact fun _ h => h.sub (List.nil_sublist _)
      · skip
        refine gc_region ?_
        refine gl_cons (gs_val (val_fieldAddr kfo148_0 rfl) rfl rfl rfl ?_)
        refine gl_cons (gs_val (val_load1 kag28 rfl (sees_mem (by repeat (first | exact .head _ | refine .tail _ ?_ | refine List.mem_append_right _ ?_))) rfl) rfl rfl rfl ?_)
        refine gl_cons (gs_pure (enters_dyn (fs := []) (cs := rs[k].caps) hcl rfl .nil) ((show Eng.Pure Try.prog rs[k].f rs[k].caps.toArray Pre (.bool false) by rw [Bool.eq_false_iff.2 hbt] at hpu; exact hpu)) rfl rfl rfl (fun w hi => hst _ _ _ _ rfl hi hpre.2) ?_)
        refine gl_cons (gs_val (val_not rfl) rfl rfl rfl ?_)
        refine gl_nil ?_
        refine gk_seq ?_
        refine gc_true rfl ?_
        refine gc_seq ?_
        refine gc_region ?_
        refine gl_cons (gs_val (val_fieldAddr kfo148_1 rfl) rfl rfl rfl ?_)
        refine gl_cons (gs_val (val_load1 kag25 rfl (sees_mem (by repeat (first | exact .head _ | refine .tail _ ?_ | refine List.mem_append_right _ ?_))) rfl) rfl rfl rfl ?_)
        refine gl_cons (gs_val (val_assign rfl) rfl rfl rfl ?_)
        refine gl_nil ?_
        refine gk_seq ?_
        refine gc_exit ?_
        refine gk_block_pass rfl ?_
        refine gk_seq_exit ?_
        refine gk_loop_exit ?_
        refine gk_block_exit ?_
        refine gk_seq ?_
        refine gc_seq ?_
        refine gc_region ?_
        refine gl_cons (gs_val (val_move rfl) rfl rfl rfl ?_)
        refine gl_cons (gs_val (val_assign rfl) rfl rfl rfl ?_)
        refine gl_nil ?_
        refine gk_seq ?_
        refine gc_ret ?_
        refine gk_scope_ret ?_
        refine gk_ret rfl (resv_tmp rfl .nil) (List.nil_sublist _) ?_
        first | exact ⟨congrArg I64 (hb2 hbt).symm, rfl⟩ | exact ⟨congrArg I64 (AllR.done hall).symm, rfl⟩
    · have hkn : k = rs.length := by omega
      subst hkn
      refine gc_exit ?_
      refine gk_seq_exit ?_
      refine gk_loop_exit ?_
      refine gk_block_exit ?_
      refine gk_seq ?_
      refine gc_seq ?_
      refine gc_region ?_
      refine gl_cons (gs_val (val_move rfl) rfl rfl rfl ?_)
      refine gl_cons (gs_val (val_assign rfl) rfl rfl rfl ?_)
      refine gl_nil ?_
      refine gk_seq ?_
      refine gc_ret ?_
      refine gk_scope_ret ?_
      refine gk_ret rfl (resv_tmp rfl .nil) (List.nil_sublist _) ?_
      first | exact ⟨congrArg I64 (hb2 hbt).symm, rfl⟩ | exact ⟨congrArg I64 (AllR.done hall).symm, rfl⟩

/-- baize/topup.New$1 -/
theorem newB1_spec (b1 : Nat) (ba : Option Addr) (n c : Nat) (l : List Int) (hn : l.length = n) : Pure Try.prog 80 ([.pointer (some ⟨b1, 0, none⟩)]).toArray (fun w => Row w [] (some ⟨b1, 0, none⟩) [.slice ba n c] ∧ Row w [] ba (l.map I64)) (.bool (decide (2 ≤ n ∧ n ≤ 8))) := by
  refine spec_walk (n := 10) Try.func80 rfl rfl rfl (fun w0 hpre => ?_)
  refine gc_seq ?_
  refine gc_region ?_
  refine gl_cons (gs_val (val_assign rfl) rfl rfl rfl ?_)
  refine gl_nil ?_
  refine gk_seq ?_
  refine gc_seq ?_
  refine gc_region ?_
  refine gl_cons (gs_val (val_load1 kag22 rfl ((sees_row hpre.1).part 0) rfl) rfl rfl rfl ?_)
  refine gl_cons (gs_val (val_lenSli ksl22 rfl) rfl rfl rfl ?_)
  refine gl_cons (gs_val (val_geq rfl rfl) rfl rfl rfl ?_)
  refine gl_cons (gs_val (val_move rfl) rfl rfl rfl ?_)
  refine gx_split 5 rfl (fun h5 => ?_) (fun h5 => ?_)
  · skip
    refine gl_cons (gs_val (val_load1 kag22 rfl ((sees_row hpre.1).part 0) rfl) rfl rfl rfl ?_)
    refine gl_cons (gs_val (val_lenSli ksl22 rfl) rfl rfl rfl ?_)
    refine gl_cons (gs_val (val_leq rfl rfl) rfl rfl rfl ?_)
    refine gl_cons (gs_val (val_pick_t rfl rfl) rfl rfl rfl ?_)
    refine gl_cons (gs_val (val_assign rfl) rfl rfl rfl ?_)
    refine gl_nil ?_
    refine gk_seq ?_
    refine gc_ret ?_
    refine gk_ret rfl (resv_tmp rfl .nil) (List.nil_sublist _) ?_
    first | exact ⟨congrArg Value.bool (decide_eq_decide.2 (by omega)), rfl⟩ | exact ⟨congrArg Value.bool (decide_eq_false (by omega)).symm, rfl⟩
  · skip
    refine gl_cons (gs_skip rfl rfl rfl ?_)
    refine gl_cons (gs_skip rfl rfl rfl ?_)
    refine gl_cons (gs_skip rfl rfl rfl ?_)
    refine gl_cons (gs_val (val_pick_f rfl rfl) rfl rfl rfl ?_)
    refine gl_cons (gs_val (val_assign rfl) rfl rfl rfl ?_)
    refine gl_nil ?_
    refine gk_seq ?_
    refine gc_ret ?_
    refine gk_ret rfl (resv_tmp rfl .nil) (List.nil_sublist _) ?_
    first | exact ⟨congrArg Value.bool (decide_eq_decide.2 (by omega)), rfl⟩ | exact ⟨congrArg Value.bool (decide_eq_false (by omega)).symm, rfl⟩

/-- baize/topup.New$2 -/
theorem newB2_spec (b1 : Nat) (ba : Option Addr) (n c : Nat) (l : List Int) (hn : l.length = n) (hb : n ≤ 140737488351232) : Pure Try.prog 81 ([.pointer (some ⟨b1, 0, none⟩)]).toArray (fun w => Row w [] (some ⟨b1, 0, none⟩) [.slice ba n c] ∧ Row w [] ba (l.map I64)) (.bool (decide (∀ x ∈ l, rightP x))) := by
  refine spec_walk (n := 4) Try.func81 rfl rfl rfl (fun w0 hpre => ?_)
  refine gc_seq ?_
  refine gc_region ?_
  refine gl_cons (gs_val (val_assign rfl) rfl rfl rfl ?_)
  refine gl_nil ?_
  refine gk_seq ?_
  refine gc_seq ?_
  refine gc_region ?_
  refine gl_cons (gs_val (val_load1 kag22 rfl ((sees_row hpre.1).part 0) rfl) rfl rfl rfl ?_)
  refine gl_cons (gs_pure (enters kcall82 (.cons rfl .nil)) (amounts_spec ba n c l hn hb) rfl rfl rfl (row_of_sees (sees_row hpre.2)) ?_)
  refine gl_cons (gs_val (val_assign rfl) rfl rfl rfl ?_)
  refine gl_nil ?_
  refine gk_seq ?_
  refine gc_ret ?_
  refine gk_ret rfl (resv_tmp rfl .nil) (List.nil_sublist _) ?_
  exact ⟨rfl, rfl⟩

/-- baize/topup.New$3 -/
theorem newB3_spec (b1 : Nat) (ba : Option Addr) (n c : Nat) (l : List Int) (hn : l.length = n) (hb : n ≤ 100) (hr : ∀ x ∈ l, rightP x) : Pure Try.prog 83 ([.pointer (some ⟨b1, 0, none⟩)]).toArray (fun w => Row w [] (some ⟨b1, 0, none⟩) [.slice ba n c] ∧ Row w [] ba (l.map I64)) (.bool (decide (rightP l.sum))) := by
  refine spec_walk (n := 5) Try.func83 rfl rfl rfl (fun w0 hpre => ?_)
  refine gc_seq ?_
  refine gc_region ?_
  refine gl_cons (gs_val (val_assign rfl) rfl rfl rfl ?_)
  refine gl_nil ?_
  refine gk_seq ?_
  refine gc_seq ?_
  refine gc_region ?_
  refine gl_cons (gs_val (val_load1 kag22 rfl ((sees_row hpre.1).part 0) rfl) rfl rfl rfl ?_)
  refine gl_cons (gs_pure (enters kcall85 (.cons rfl .nil)) (sum_spec ba n c l hn hb hr) rfl rfl rfl (row_of_sees (sees_row hpre.2)) ?_)
  refine gl_cons (gs_pure (enters kcall84 (.cons rfl .nil)) (right_spec l.sum) rfl rfl rfl (fun _ _ => trivial) ?_)
  refine gl_cons (gs_val (val_assign rfl) rfl rfl rfl ?_)
  refine gl_nil ?_
  refine gk_seq ?_
  refine gc_ret ?_
  refine gk_ret rfl (resv_tmp rfl .nil) (List.nil_sublist _) ?_
  exact ⟨rfl, rfl⟩

end Go.Proofs.Ytddckbhlfeegoaa
