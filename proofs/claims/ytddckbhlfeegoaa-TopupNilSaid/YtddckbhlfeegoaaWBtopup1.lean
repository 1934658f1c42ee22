/- The walk of functions of the program: what each computes, for every input. -/
import Derived.Test.YtddckbhlfeegoaaWBFacts
import Derived.Test.YtddckbhlfeegoaaWBeq
namespace Go.Proofs.Ytddckbhlfeegoaa
open Go Go.Eng
set_option linter.unusedVariables false
set_option linter.unusedSimpArgs false

/-- baize/coin.Right -/
theorem right_spec (n : Int) : Pure Try.prog 84 ([I64 n]).toArray (fun _ => True) (.bool (decide (rightP n))) := by
  refine spec_walk (n := 9) Try.func84 rfl rfl rfl (fun w0 hpre => ?_)
  refine gc_seq ?_
  refine gc_region ?_
  refine gl_cons (gs_val (val_assign rfl) rfl rfl rfl ?_)
  refine gl_nil ?_
  refine gk_seq ?_
  refine gc_seq ?_
  refine gc_region ?_
  refine gl_cons (gs_val (val_move rfl) rfl rfl rfl ?_)
  refine gl_cons (gs_val (val_geq rfl rfl) rfl rfl rfl ?_)
  refine gl_cons (gs_val (val_move rfl) rfl rfl rfl ?_)
  refine gx_split 5 rfl (fun h5 => ?_) (fun h5 => ?_)
  · skip
    refine gl_cons (gs_val (val_move rfl) rfl rfl rfl ?_)
    refine gl_cons (gs_val (val_leq rfl rfl) rfl rfl rfl ?_)
    refine gl_cons (gs_val (val_pick_t rfl rfl) rfl rfl rfl ?_)
    refine gl_cons (gs_val (val_assign rfl) rfl rfl rfl ?_)
    refine gl_nil ?_
    refine gk_seq ?_
    refine gc_ret ?_
    refine gk_ret rfl (resv_tmp rfl .nil) (List.nil_sublist _) ?_
    first | exact ⟨congrArg Value.bool (decide_eq_decide.2 (by omega)), rfl⟩ | exact ⟨congrArg Value.bool (decide_eq_false (by omega)).symm, rfl⟩
  · skip
    refine gl_cons (gs_skip rfl rfl rfl ?_)
    refine gl_cons (gs_skip rfl rfl rfl ?_)
    refine gl_cons (gs_val (val_pick_f rfl rfl) rfl rfl rfl ?_)
    refine gl_cons (gs_val (val_assign rfl) rfl rfl rfl ?_)
    refine gl_nil ?_
    refine gk_seq ?_
    refine gc_ret ?_
    refine gk_ret rfl (resv_tmp rfl .nil) (List.nil_sublist _) ?_
    first | exact ⟨congrArg Value.bool (decide_eq_decide.2 (by omega)), rfl⟩ | exact ⟨congrArg Value.bool (decide_eq_false (by omega)).symm, rfl⟩

/-- baize/topup.height -/
theorem height_spec (n : Int) : Pure Try.prog 90 ([I64 n]).toArray (fun _ => True) (.bool (decide (heightP n))) := by
  refine spec_walk (n := 9) Try.func90 rfl rfl rfl (fun w0 hpre => ?_)
  refine gc_seq ?_
  refine gc_region ?_
  refine gl_cons (gs_val (val_assign rfl) rfl rfl rfl ?_)
  refine gl_nil ?_
  refine gk_seq ?_
  refine gc_seq ?_
  refine gc_region ?_
  refine gl_cons (gs_val (val_move rfl) rfl rfl rfl ?_)
  refine gl_cons (gs_val (val_geq rfl rfl) rfl rfl rfl ?_)
  refine gl_cons (gs_val (val_move rfl) rfl rfl rfl ?_)
  refine gx_split 5 rfl (fun h5 => ?_) (fun h5 => ?_)
  · skip
    refine gl_cons (gs_val (val_move rfl) rfl rfl rfl ?_)
    refine gl_cons (gs_val (val_leq rfl rfl) rfl rfl rfl ?_)
    refine gl_cons (gs_val (val_pick_t rfl rfl) rfl rfl rfl ?_)
    refine gl_cons (gs_val (val_assign rfl) rfl rfl rfl ?_)
    refine gl_nil ?_
    refine gk_seq ?_
    refine gc_ret ?_
    refine gk_ret rfl (resv_tmp rfl .nil) (List.nil_sublist _) ?_
    first | exact ⟨congrArg Value.bool (decide_eq_decide.2 (by omega)), rfl⟩ | exact ⟨congrArg Value.bool (decide_eq_false (by omega)).symm, rfl⟩
  · skip
    refine gl_cons (gs_skip rfl rfl rfl ?_)
    refine gl_cons (gs_skip rfl rfl rfl ?_)
    refine gl_cons (gs_val (val_pick_f rfl rfl) rfl rfl rfl ?_)
    refine gl_cons (gs_val (val_assign rfl) rfl rfl rfl ?_)
    refine gl_nil ?_
    refine gk_seq ?_
    refine gc_ret ?_
    refine gk_ret rfl (resv_tmp rfl .nil) (List.nil_sublist _) ?_
    first | exact ⟨congrArg Value.bool (decide_eq_decide.2 (by omega)), rfl⟩ | exact ⟨congrArg Value.bool (decide_eq_false (by omega)).symm, rfl⟩

/-- baize/topup.amounts$1 -/
theorem amount1_spec (n : Int) : Pure Try.prog 148 ([I64 n]).toArray (fun _ => True) (.bool (decide (¬ rightP n))) := by
  refine spec_walk (n := 6) Try.func148 rfl rfl rfl (fun w0 hpre => ?_)
  refine gc_seq ?_
  refine gc_region ?_
  refine gl_cons (gs_val (val_assign rfl) rfl rfl rfl ?_)
  refine gl_nil ?_
  refine gk_seq ?_
  refine gc_seq ?_
  refine gc_region ?_
  refine gl_cons (gs_val (val_move rfl) rfl rfl rfl ?_)
  refine gl_cons (gs_pure (enters kcall84 (.cons rfl .nil)) (right_spec n) rfl rfl rfl (fun _ _ => trivial) ?_)
  refine gl_cons (gs_val (val_not_dec rfl) rfl rfl rfl ?_)
  refine gl_cons (gs_val (val_assign rfl) rfl rfl rfl ?_)
  refine gl_nil ?_
  refine gk_seq ?_
  refine gc_ret ?_
  refine gk_ret rfl (resv_tmp rfl .nil) (List.nil_sublist _) ?_
  exact ⟨rfl, rfl⟩

/-- slices.IndexFunc[[]int,int] -/
theorem indexA_spec (ba : Option Addr) (n c : Nat) (l : List Int) (hn : l.length = n) (hb : n ≤ 140737488351232) : Pure Try.prog 173 ([.slice ba n c, (.func (.func 148) #[] #[])]).toArray (fun w => Row w [] ba (l.map I64)) (I64 (badI l)) := by
  refine spec_walk (n := 19) Try.func173 rfl rfl rfl (fun w0 hpre => ?_)
  refine gc_seq ?_
  refine gc_region ?_
  refine gl_cons (gs_val (val_assign rfl) rfl rfl rfl ?_)
  refine gl_nil ?_
  refine gk_seq ?_
  refine gc_seq ?_
  refine gc_seq ?_
  refine gc_region ?_
  refine gl_cons (gs_val (val_move rfl) rfl rfl rfl ?_)
  refine gl_cons (gs_val (val_lenSli ksl22 rfl) rfl rfl rfl ?_)
  refine gl_cons (gs_val (val_move rfl) rfl rfl rfl ?_)
  refine gl_nil ?_
  refine gk_seq ?_
  refine gc_block ?_
  refine gc_loop (σ := Nat) (I := fun v => v ≤ n ∧ ∀ j (hj : j < l.length), j < v → rightP l[j]) (μ := fun v => n - v) (EI := fun v => [(8, I64 (v : Int)), (0, .slice ba n c), (1, (.func (.func 148) #[] #[])), (7, I64 (n : Int))]) (LI := fun v => []) 0 ?_ ?_ ?_ ?_
  · exact ⟨Nat.zero_le _, fun j _ h => by omega⟩
  · exact (.cons rfl (.cons rfl (.cons rfl (.cons rfl .nil))))
  · exact fun _ h => h
  · intro k ⟨hkn', hall⟩
    have hkn' : k ≤ n := hkn'
    refine gc_seq ?_
    refine gc_region ?_
    refine gl_cons (gs_val (val_lss rfl rfl) rfl rfl rfl ?_)
    refine gl_nil ?_
    refine gk_seq ?_
    refine gc_seq ?_
    refine gc_if rfl (fun hj => ?_) (fun hj => ?_)
    · have hkl : k < l.length := by omega
      refine gc_skip ?_
      refine gk_seq ?_
      refine gc_seq ?_
      refine gc_block ?_
      refine gc_seq ?_
      refine gc_region ?_
      refine gl_cons (gs_val (val_move rfl) rfl rfl rfl ?_)
      refine gl_cons (gs_val (val_assign rfl) rfl rfl rfl ?_)
      refine gl_nil ?_
      refine gk_seq ?_
      refine gc_seq ?_
      refine gc_region ?_
      refine gl_cons (gs_val (val_move rfl) rfl rfl rfl ?_)
      refine gl_cons (gs_val (val_move rfl) rfl rfl rfl ?_)
      refine gl_cons (gs_val (val_move rfl) rfl rfl rfl ?_)
      refine gl_cons (gs_val (val_indexSli (m := k) ksl22 rfl rfl (by omega) (by omega) (sees_row hpre) (by (try simp only [List.length_map, Nat.mul_one, dig_len, inc_len, List.length_append, List.length_cons, List.length_nil, List.length_replicate]); omega)) rfl rfl rfl ?_)
      refine gl_cons (gs_val (val_load1 kag3 rfl ((sees_row hpre).elem hkl) rfl) rfl rfl rfl ?_)
      refine gl_cons (gs_pure (enters_dyn (fs := []) (cs := []) kcall148 rfl (.cons rfl .nil)) (amount1_spec l[k]) rfl rfl rfl (fun _ _ => trivial) ?_)
      refine gl_nil ?_
      refine gk_seq ?_
      refine gc_if rfl (fun h16 => ?_) (fun h16 => ?_)
      · skip
        refine gc_seq ?_
        refine gc_region ?_
        refine gl_cons (gs_val (val_move rfl) rfl rfl rfl ?_)
        refine gl_cons (gs_val (val_assign rfl) rfl rfl rfl ?_)
        refine gl_nil ?_
        refine gk_seq ?_
        refine gc_ret ?_
        refine gk_block_ret ?_
        refine gk_seq_ret ?_
        refine gk_loop_ret ?_
        refine gk_block_ret ?_
        refine gk_seq_ret ?_
        refine gk_ret rfl (resv_tmp rfl .nil) (List.nil_sublist _) ?_
        first | exact ⟨congrArg I64 (bad_at hkl hall h16).symm, rfl⟩ | exact ⟨congrArg I64 (bad_none (fun j hj => hall j hj (by omega))).symm, rfl⟩
      · skip
        refine gc_skip ?_
        refine gk_block ?_
        refine gk_seq ?_
        refine gc_region ?_
        refine gl_cons (gs_val (val_addI rfl rfl (by omega)) rfl rfl rfl ?_)
        refine gl_cons (gs_val (val_move rfl) rfl rfl rfl ?_)
        refine gl_nil ?_
        refine gk_again (k + 1) ?_ ?_ ?_ ?_
        · exact ⟨by show k + 1 ≤ n; omega, fun j hj h => if e : j = k then (by subst e; exact Decidable.not_not.1 h16) else hall j hj (by omega)⟩
        · show n - (k + 1) < n - k; omega
        · exact (.cons (rfl) (.cons (rfl) (.cons (rfl) (.cons (rfl) .nil))))
        · exact fun _ h => h
    · have hkn : k = n := by omega
      refine gc_exit ?_
      refine gk_seq_exit ?_
      refine gk_loop_exit ?_
      refine gk_block_exit ?_
      refine gk_seq ?_
      refine gc_seq ?_
      refine gc_region ?_
      refine gl_cons (gs_val (val_assign rfl) rfl rfl rfl ?_)
      refine gl_nil ?_
      refine gk_seq ?_
      refine gc_ret ?_
      refine gk_ret rfl (resv_tmp rfl .nil) (List.nil_sublist _) ?_
      first | exact ⟨congrArg I64 (bad_at hkl hall h16).symm, rfl⟩ | exact ⟨congrArg I64 (bad_none (fun j hj => hall j hj (by omega))).symm, rfl⟩

/-- slices.ContainsFunc[[]int,int] -/
theorem containsA_spec (ba : Option Addr) (n c : Nat) (l : List Int) (hn : l.length = n) (hb : n ≤ 140737488351232) : Pure Try.prog 147 ([.slice ba n c, (.func (.func 148) #[] #[])]).toArray (fun w => Row w [] ba (l.map I64)) (.bool (decide (0 ≤ badI l))) := by
  refine spec_walk (n := 9) Try.func147 rfl rfl rfl (fun w0 hpre => ?_)
  refine gc_seq ?_
  refine gc_region ?_
  refine gl_cons (gs_val (val_assign rfl) rfl rfl rfl ?_)
  refine gl_nil ?_
  refine gk_seq ?_
  refine gc_seq ?_
  refine gc_region ?_
  refine gl_cons (gs_val (val_move rfl) rfl rfl rfl ?_)
  refine gl_cons (gs_val (val_move rfl) rfl rfl rfl ?_)
  refine gl_cons (gs_pure (enters kcall173 (.cons rfl (.cons rfl .nil))) (indexA_spec ba n c l hn hb) rfl rfl rfl (row_of_sees (sees_row hpre)) ?_)
  refine gl_cons (gs_val (val_geq rfl rfl) rfl rfl rfl ?_)
  refine gl_cons (gs_val (val_assign rfl) rfl rfl rfl ?_)
  refine gl_nil ?_
  refine gk_seq ?_
  refine gc_ret ?_
  refine gk_ret rfl (resv_tmp rfl .nil) (List.nil_sublist _) ?_
  exact ⟨rfl, rfl⟩

/-- baize/topup.amounts -/
theorem amounts_spec (ba : Option Addr) (n c : Nat) (l : List Int) (hn : l.length = n) (hb : n ≤ 140737488351232) : Pure Try.prog 82 ([.slice ba n c]).toArray (fun w => Row w [] ba (l.map I64)) (.bool (decide (∀ x ∈ l, rightP x))) := by
  refine spec_walk (n := 6) Try.func82 rfl rfl rfl (fun w0 hpre => ?_)
  refine gc_seq ?_
  refine gc_region ?_
  refine gl_cons (gs_val (val_assign rfl) rfl rfl rfl ?_)
  refine gl_nil ?_
  refine gk_seq ?_
  refine gc_seq ?_
  refine gc_region ?_
  refine gl_cons (gs_val (val_move rfl) rfl rfl rfl ?_)
  refine gl_cons (gs_pure (enters kcall147 (.cons rfl (.cons rfl .nil))) (containsA_spec ba n c l hn hb) rfl rfl rfl (row_of_sees (sees_row hpre)) ?_)
  refine gl_cons (gs_val (val_not_dec rfl) rfl rfl rfl ?_)
  refine gl_cons (gs_val (val_assign rfl) rfl rfl rfl ?_)
  refine gl_nil ?_
  refine gk_seq ?_
  refine gc_ret ?_
  refine gk_ret rfl (resv_tmp rfl .nil) (List.nil_sublist _) ?_
  exact ⟨congrArg Value.bool (bad_iff2 l), rfl⟩

/-- baize/topup.sum -/
theorem sum_spec (ba : Option Addr) (n c : Nat) (l : List Int) (hn : l.length = n) (hb : n ≤ 100) (hr : ∀ x ∈ l, rightP x) : Pure Try.prog 85 ([.slice ba n c]).toArray (fun w => Row w [] ba (l.map I64)) (I64 l.sum) := by
  refine spec_walk (n := 17) Try.func85 rfl rfl rfl (fun w0 hpre => ?_)
  refine gc_seq ?_
  refine gc_region ?_
  refine gl_cons (gs_val (val_assign rfl) rfl rfl rfl ?_)
  refine gl_nil ?_
  refine gk_seq ?_
  refine gc_seq ?_
  refine gc_region ?_
  refine gl_cons (gs_val (val_assign rfl) rfl rfl rfl ?_)
  refine gl_nil ?_
  refine gk_seq ?_
  refine gc_seq ?_
  refine gc_seq ?_
  refine gc_region ?_
  refine gl_cons (gs_val (val_move rfl) rfl rfl rfl ?_)
  refine gl_cons (gs_val (val_lenSli ksl22 rfl) rfl rfl rfl ?_)
  refine gl_cons (gs_val (val_move rfl) rfl rfl rfl ?_)
  refine gl_nil ?_
  refine gk_seq ?_
  refine gc_block ?_
  refine gc_loop (σ := Nat) (I := fun v => v ≤ n) (μ := fun v => n - v) (EI := fun v => [(3, I64 (sumT l v)), (8, I64 (v : Int)), (7, I64 (n : Int)), (2, .int .i64 0), (6, .slice ba n c)]) (LI := fun v => []) 0 ?_ ?_ ?_ ?_
  · exact Nat.zero_le _
  · exact (.cons rfl (.cons rfl (.cons rfl (.cons rfl (.cons rfl .nil)))))
  · exact fun _ h => h
  · intro k hkn'
    have hkn' : k ≤ n := hkn'
    refine gc_seq ?_
    refine gc_region ?_
    refine gl_cons (gs_val (val_lss rfl rfl) rfl rfl rfl ?_)
    refine gl_nil ?_
    refine gk_seq ?_
    refine gc_seq ?_
    refine gc_if rfl (fun hj => ?_) (fun hj => ?_)
    · have hkl : k < l.length := by omega
      have hs1 := sumT_bound hr k
      have hs2 : rightP l[k] := hr _ (List.getElem_mem hkl)
      refine gc_skip ?_
      refine gk_seq ?_
      refine gc_seq ?_
      refine gc_block ?_
      refine gc_seq ?_
      refine gc_region ?_
      refine gl_cons (gs_val (val_indexSli (m := k) ksl22 rfl rfl (by omega) (by omega) (sees_row hpre) (by (try simp only [List.length_map, Nat.mul_one, dig_len, inc_len, List.length_append, List.length_cons, List.length_nil, List.length_replicate]); omega)) rfl rfl rfl ?_)
      refine gl_cons (gs_val (val_load1 kag3 rfl ((sees_row hpre).elem hkl) rfl) rfl rfl rfl ?_)
      refine gl_cons (gs_val (val_assign rfl) rfl rfl rfl ?_)
      refine gl_nil ?_
      refine gk_seq ?_
      refine gc_region ?_
      refine gl_cons (gs_val (val_move rfl) rfl rfl rfl ?_)
      refine gl_cons (gs_val (val_move rfl) rfl rfl rfl ?_)
      refine gl_cons (gs_val (val_addI rfl rfl (by omega)) rfl rfl rfl ?_)
      refine gl_cons (gs_val (val_assign rfl) rfl rfl rfl ?_)
      refine gl_nil ?_
      refine gk_block ?_
      refine gk_seq ?_
      refine gc_region ?_
      refine gl_cons (gs_val (val_addI rfl rfl (by omega)) rfl rfl rfl ?_)
      refine gl_cons (gs_val (val_move rfl) rfl rfl rfl ?_)
      refine gl_nil ?_
      refine gk_again (k + 1) ?_ ?_ ?_ ?_
      · show k + 1 ≤ n; omega
      · show n - (k + 1) < n - k; omega
      · refine .cons (congrArg (fun z => some (I64 z)) (by rw [sumT_step hkl] : sumT l k + l[k] = sumT l (k + 1))) ?_; repeat (first | exact .nil | refine .cons rfl ?_)
      · exact fun _ h => h
    · have hkn : k = n := by omega
      refine gc_exit ?_
      refine gk_seq_exit ?_
      refine gk_loop_exit ?_
      refine gk_block_exit ?_
      refine gk_seq ?_
      refine gc_seq ?_
      refine gc_region ?_
      refine gl_cons (gs_val (val_move rfl) rfl rfl rfl ?_)
      refine gl_cons (gs_val (val_assign rfl) rfl rfl rfl ?_)
      refine gl_nil ?_
      refine gk_seq ?_
      refine gc_ret ?_
      refine gk_ret rfl (resv_tmp rfl .nil) (List.nil_sublist _) ?_
      exact ⟨congrArg I64 (by rw [hkn, ← hn]; exact sumT_all l), rfl⟩

/-- slices.Clone[[]int,int] -/
theorem cloneI_nil (n c : Nat) (hn : n = 0) : Makes Try.prog 86 ([.slice none n c]).toArray (fun _ => True) (fun s : Option Addr × Nat × List Ent => Own 3 1 s.1 n s.2.1 [] s.2.2) (fun s => .slice s.1 n s.2.1) (fun s => s.2.2) := by
  refine spec_walk (n := 8) Try.func86 rfl rfl rfl (fun w0 hpre => ?_)
  refine gc_seq ?_
  refine gc_region ?_
  refine gl_cons (gs_val (val_assign rfl) rfl rfl rfl ?_)
  refine gl_nil ?_
  refine gk_seq ?_
  refine gc_seq ?_
  refine gc_seq ?_
  refine gc_region ?_
  refine gl_cons (gs_val (val_move rfl) rfl rfl rfl ?_)
  refine gl_cons (gs_val (val_eqlNilSli kun22 rfl rfl) rfl rfl rfl ?_)
  refine gl_nil ?_
  refine gk_seq ?_
  refine gc_true rfl ?_
  refine gc_seq ?_
  refine gc_region ?_
  refine gl_cons (gs_val (val_assign rfl) rfl rfl rfl ?_)
  refine gl_nil ?_
  refine gk_seq ?_
  refine gc_ret ?_
  refine gk_seq_ret ?_
  refine gk_ret rfl (resv_tmp rfl .nil) (List.nil_sublist _) ?_
  subst hn; exact ⟨(none, 0, []), .nil, rfl, rfl⟩

/-- slices.Clone[[]int,int] -/
theorem cloneI_some (a : Addr) (n c : Nat) (l : List Int) (hn : l.length = n) (hl : n ≤ 1048576) : Makes Try.prog 86 ([.slice (some a) n c]).toArray (fun w => Row w [] (some a) (l.map I64)) (fun s : Option Addr × Nat × List Ent => Own 3 1 s.1 n s.2.1 (l.map I64) s.2.2) (fun s => .slice s.1 n s.2.1) (fun s => s.2.2) := by
  refine spec_walk (n := 8) Try.func86 rfl rfl rfl (fun w0 hpre => ?_)
  refine gc_seq ?_
  refine gc_region ?_
  refine gl_cons (gs_val (val_assign rfl) rfl rfl rfl ?_)
  refine gl_nil ?_
  refine gk_seq ?_
  refine gc_seq ?_
  refine gc_seq ?_
  refine gc_region ?_
  refine gl_cons (gs_val (val_move rfl) rfl rfl rfl ?_)
  refine gl_cons (gs_val (val_eqlNilSli kun22 rfl rfl) rfl rfl rfl ?_)
  refine gl_nil ?_
  refine gk_seq ?_
  refine gc_false rfl ?_
  refine gc_skip ?_
  refine gk_seq ?_
  refine gc_seq ?_
  refine gc_region ?_
  refine gl_cons (gs_buildSlice (zs := []) ksl22 kze3 rfl rfl .nil .nil rfl rfl (fun b5 => ?_))
  refine gl_cons (gs_val (val_move rfl) rfl rfl rfl ?_)
  refine gl_cons (gs_append ksl22 kze3 rfl rfl rfl rfl rfl rfl (own_lit (xs := []) rfl) (fun _ => by first | exact .here | exact .headR | exact .app | exact .tail .here | exact .tail .headR | exact .tail .app | exact .tail (.tail .here) | exact .tail (.tail .headR) | exact .tail (.tail .app) | exact .tail (.tail (.tail .here)) | exact .tail (.tail (.tail .headR)) | exact .tail (.tail (.tail .app)) | exact .tail (.tail (.tail (.tail .here))) | exact .tail (.tail (.tail (.tail .headR))) | exact .tail (.tail (.tail (.tail .app))) | exact .tail (.tail (.tail (.tail (.tail .here)))) | exact .tail (.tail (.tail (.tail (.tail .headR)))) | exact .tail (.tail (.tail (.tail (.tail .app)))) | exact .appr .here | exact .appr .headR | exact .appr .app | exact .tail (.appr .here) | exact .tail (.appr .headR) | exact .tail (.appr .app) | exact .tail (.tail (.appr .here)) | exact .tail (.tail (.appr .headR)) | exact .tail (.tail (.appr .app)) | exact .appr (.tail .here) | exact .appr (.tail .headR) | exact .appr (.tail .app) | exact .appr (.tail (.tail .here)) | exact .appr (.tail (.tail .headR)) | exact .appr (.tail (.tail .app)) | exact .appr (.appr .here) | exact .appr (.appr .headR) | exact .appr (.appr .app) | exact .tail (.appr (.appr .here)) | exact .tail (.appr (.appr .headR)) | exact .tail (.appr (.appr .app)) | exact .appr (.appr (.tail .here)) | exact .appr (.appr (.tail .headR)) | exact .appr (.appr (.tail .app)) | exact .appr (.appr (.appr .here)) | exact .appr (.appr (.appr .headR)) | exact .appr (.appr (.appr .app))) (brings_slice ksl22 (sees_row hpre) (by rw [List.length_map, hn, Nat.mul_one]) (one_map (fun _ => rfl) _)) (by omega) (fun ba7 c7 N7 hown7 => ?_))
  refine gl_cons (gs_val (val_assign rfl) rfl rfl rfl ?_)
  refine gl_nil ?_
  refine gk_seq ?_
  refine gc_ret ?_
  refine gk_ret rfl (resv_tmp rfl .nil) (List.Sublist.refl _) ?_
  exact ⟨(ba7, c7, N7), by have := hown7; rwa [Nat.zero_add] at this, by rw [Nat.zero_add]; rfl, rfl⟩

theorem cloneI_spec (ba : Option Addr) (n c : Nat) (l : List Int) (hn : l.length = n) (hl : n ≤ 1048576) : Makes Try.prog 86 ([.slice ba n c]).toArray (fun w => Row w [] ba (l.map I64)) (fun s : Option Addr × Nat × List Ent => Own 3 1 s.1 n s.2.1 (l.map I64) s.2.2) (fun s => .slice s.1 n s.2.1) (fun s => s.2.2) := by
  cases ba with
  | none =>
    intro w0 h1 h2 h3
    have h3 : Row w0 [] none (l.map I64) := h3
    obtain rfl : l = [] := by
      cases l with
      | nil => rfl
      | cons a l => obtain ⟨_, h, _⟩ := h3 0 _ rfl; cases h
    obtain rfl : n = 0 := hn.symm
    exact cloneI_nil 0 c rfl w0 h1 h2 trivial
  | some a => exact cloneI_some a n c l hn hl

/-- slices.Clone[[]bool,bool] -/
theorem cloneO_nil (n c : Nat) (hn : n = 0) : Makes Try.prog 109 ([.slice none n c]).toArray (fun _ => True) (fun s : Option Addr × Nat × List Ent => Own 4 1 s.1 n s.2.1 [] s.2.2) (fun s => .slice s.1 n s.2.1) (fun s => s.2.2) := by
  refine spec_walk (n := 8) Try.func109 rfl rfl rfl (fun w0 hpre => ?_)
  refine gc_seq ?_
  refine gc_region ?_
  refine gl_cons (gs_val (val_assign rfl) rfl rfl rfl ?_)
  refine gl_nil ?_
  refine gk_seq ?_
  refine gc_seq ?_
  refine gc_seq ?_
  refine gc_region ?_
  refine gl_cons (gs_val (val_move rfl) rfl rfl rfl ?_)
  refine gl_cons (gs_val (val_eqlNilSli kun55 rfl rfl) rfl rfl rfl ?_)
  refine gl_nil ?_
  refine gk_seq ?_
  refine gc_true rfl ?_
  refine gc_seq ?_
  refine gc_region ?_
  refine gl_cons (gs_val (val_assign rfl) rfl rfl rfl ?_)
  refine gl_nil ?_
  refine gk_seq ?_
  refine gc_ret ?_
  refine gk_seq_ret ?_
  refine gk_ret rfl (resv_tmp rfl .nil) (List.nil_sublist _) ?_
  subst hn; exact ⟨(none, 0, []), .nil, rfl, rfl⟩

/-- slices.Clone[[]bool,bool] -/
theorem cloneO_some (a : Addr) (n c : Nat) (l : List Bool) (hn : l.length = n) (hl : n ≤ 1048576) : Makes Try.prog 109 ([.slice (some a) n c]).toArray (fun w => Row w [] (some a) (l.map Value.bool)) (fun s : Option Addr × Nat × List Ent => Own 4 1 s.1 n s.2.1 (l.map Value.bool) s.2.2) (fun s => .slice s.1 n s.2.1) (fun s => s.2.2) := by
  refine spec_walk (n := 8) Try.func109 rfl rfl rfl (fun w0 hpre => ?_)
  refine gc_seq ?_
  refine gc_region ?_
  refine gl_cons (gs_val (val_assign rfl) rfl rfl rfl ?_)
  refine gl_nil ?_
  refine gk_seq ?_
  refine gc_seq ?_
  refine gc_seq ?_
  refine gc_region ?_
  refine gl_cons (gs_val (val_move rfl) rfl rfl rfl ?_)
  refine gl_cons (gs_val (val_eqlNilSli kun55 rfl rfl) rfl rfl rfl ?_)
  refine gl_nil ?_
  refine gk_seq ?_
  refine gc_false rfl ?_
  refine gc_skip ?_
  refine gk_seq ?_
  refine gc_seq ?_
  refine gc_region ?_
  refine gl_cons (gs_buildSlice (zs := []) ksl55 kze4 rfl rfl .nil .nil rfl rfl (fun b5 => ?_))
  refine gl_cons (gs_val (val_move rfl) rfl rfl rfl ?_)
  refine gl_cons (gs_append ksl55 kze4 rfl rfl rfl rfl rfl rfl (own_lit (xs := []) rfl) (fun _ => by first | exact .here | exact .headR | exact .app | exact .tail .here | exact .tail .headR | exact .tail .app | exact .tail (.tail .here) | exact .tail (.tail .headR) | exact .tail (.tail .app) | exact .tail (.tail (.tail .here)) | exact .tail (.tail (.tail .headR)) | exact .tail (.tail (.tail .app)) | exact .tail (.tail (.tail (.tail .here))) | exact .tail (.tail (.tail (.tail .headR))) | exact .tail (.tail (.tail (.tail .app))) | exact .tail (.tail (.tail (.tail (.tail .here)))) | exact .tail (.tail (.tail (.tail (.tail .headR)))) | exact .tail (.tail (.tail (.tail (.tail .app)))) | exact .appr .here | exact .appr .headR | exact .appr .app | exact .tail (.appr .here) | exact .tail (.appr .headR) | exact .tail (.appr .app) | exact .tail (.tail (.appr .here)) | exact .tail (.tail (.appr .headR)) | exact .tail (.tail (.appr .app)) | exact .appr (.tail .here) | exact .appr (.tail .headR) | exact .appr (.tail .app) | exact .appr (.tail (.tail .here)) | exact .appr (.tail (.tail .headR)) | exact .appr (.tail (.tail .app)) | exact .appr (.appr .here) | exact .appr (.appr .headR) | exact .appr (.appr .app) | exact .tail (.appr (.appr .here)) | exact .tail (.appr (.appr .headR)) | exact .tail (.appr (.appr .app)) | exact .appr (.appr (.tail .here)) | exact .appr (.appr (.tail .headR)) | exact .appr (.appr (.tail .app)) | exact .appr (.appr (.appr .here)) | exact .appr (.appr (.appr .headR)) | exact .appr (.appr (.appr .app))) (brings_slice ksl55 (sees_row hpre) (by rw [List.length_map, hn, Nat.mul_one]) (one_map (fun _ => rfl) _)) (by omega) (fun ba7 c7 N7 hown7 => ?_))
  refine gl_cons (gs_val (val_assign rfl) rfl rfl rfl ?_)
  refine gl_nil ?_
  refine gk_seq ?_
  refine gc_ret ?_
  refine gk_ret rfl (resv_tmp rfl .nil) (List.Sublist.refl _) ?_
  exact ⟨(ba7, c7, N7), by have := hown7; rwa [Nat.zero_add] at this, by rw [Nat.zero_add]; rfl, rfl⟩

theorem cloneO_spec (ba : Option Addr) (n c : Nat) (l : List Bool) (hn : l.length = n) (hl : n ≤ 1048576) : Makes Try.prog 109 ([.slice ba n c]).toArray (fun w => Row w [] ba (l.map Value.bool)) (fun s : Option Addr × Nat × List Ent => Own 4 1 s.1 n s.2.1 (l.map Value.bool) s.2.2) (fun s => .slice s.1 n s.2.1) (fun s => s.2.2) := by
  cases ba with
  | none =>
    intro w0 h1 h2 h3
    have h3 : Row w0 [] none (l.map Value.bool) := h3
    obtain rfl : l = [] := by
      cases l with
      | nil => rfl
      | cons a l => obtain ⟨_, h, _⟩ := h3 0 _ rfl; cases h
    obtain rfl : n = 0 := hn.symm
    exact cloneO_nil 0 c rfl w0 h1 h2 trivial
  | some a => exact cloneO_some a n c l hn hl

/-- slices.Index[[]bool,bool] -/
theorem indexF_spec (ba : Option Addr) (n c : Nat) (l : List Bool) (hn : l.length = n) (hb : n ≤ 140737488351232) : Pure Try.prog 152 ([.slice ba n c, .bool false]).toArray (fun w => Row w [] ba (l.map Value.bool)) (I64 (ixF l)) := by
  refine spec_walk (n := 19) Try.func152 rfl rfl rfl (fun w0 hpre => ?_)
  refine gc_seq ?_
  refine gc_region ?_
  refine gl_cons (gs_val (val_assign rfl) rfl rfl rfl ?_)
  refine gl_nil ?_
  refine gk_seq ?_
  refine gc_seq ?_
  refine gc_seq ?_
  refine gc_region ?_
  refine gl_cons (gs_val (val_move rfl) rfl rfl rfl ?_)
  refine gl_cons (gs_val (val_lenSli ksl55 rfl) rfl rfl rfl ?_)
  refine gl_cons (gs_val (val_move rfl) rfl rfl rfl ?_)
  refine gl_nil ?_
  refine gk_seq ?_
  refine gc_block ?_
  refine gc_loop (σ := Nat) (I := fun v => v ≤ n ∧ ∀ j (hj : j < l.length), j < v → l[j] = true) (μ := fun v => n - v) (EI := fun v => [(8, I64 (v : Int)), (0, .slice ba n c), (1, .bool false), (7, I64 (n : Int))]) (LI := fun v => []) 0 ?_ ?_ ?_ ?_
  · exact ⟨Nat.zero_le _, fun j _ h => by omega⟩
  · exact (.cons rfl (.cons rfl (.cons rfl (.cons rfl .nil))))
  · exact fun _ h => h
  · intro k ⟨hkn', hall⟩
    have hkn' : k ≤ n := hkn'
    refine gc_seq ?_
    refine gc_region ?_
    refine gl_cons (gs_val (val_lss rfl rfl) rfl rfl rfl ?_)
    refine gl_nil ?_
    refine gk_seq ?_
    refine gc_seq ?_
    refine gc_if rfl (fun hj => ?_) (fun hj => ?_)
    · have hkl : k < l.length := by omega
      refine gc_skip ?_
      refine gk_seq ?_
      refine gc_seq ?_
      refine gc_block ?_
      refine gc_seq ?_
      refine gc_region ?_
      refine gl_cons (gs_val (val_move rfl) rfl rfl rfl ?_)
      refine gl_cons (gs_val (val_assign rfl) rfl rfl rfl ?_)
      refine gl_nil ?_
      refine gk_seq ?_
      refine gc_seq ?_
      refine gc_region ?_
      refine gl_cons (gs_val (val_move rfl) rfl rfl rfl ?_)
      refine gl_cons (gs_val (val_move rfl) rfl rfl rfl ?_)
      refine gl_cons (gs_val (val_move rfl) rfl rfl rfl ?_)
      refine gl_cons (gs_val (val_indexSli (m := k) ksl55 rfl rfl (by omega) (by omega) (sees_row hpre) (by (try simp only [List.length_map, Nat.mul_one, dig_len, inc_len, List.length_append, List.length_cons, List.length_nil, List.length_replicate]); omega)) rfl rfl rfl ?_)
      refine gl_cons (gs_val (val_load1 kag4 rfl ((sees_row hpre).elem hkl) rfl) rfl rfl rfl ?_)
      refine gl_cons (gs_val (val_cast (v := .bool (decide (¬ l[k] = true))) (val_eqlB kun4 rfl rfl) (congrArg Value.bool (by cases l[k] <;> rfl))) rfl rfl rfl ?_)
      refine gl_nil ?_
      refine gk_seq ?_
      refine gc_if rfl (fun h16 => ?_) (fun h16 => ?_)
      · skip
        refine gc_seq ?_
        refine gc_region ?_
        refine gl_cons (gs_val (val_move rfl) rfl rfl rfl ?_)
        refine gl_cons (gs_val (val_assign rfl) rfl rfl rfl ?_)
        refine gl_nil ?_
        refine gk_seq ?_
        refine gc_ret ?_
        refine gk_block_ret ?_
        refine gk_seq_ret ?_
        refine gk_loop_ret ?_
        refine gk_block_ret ?_
        refine gk_seq_ret ?_
        refine gk_ret rfl (resv_tmp rfl .nil) (List.nil_sublist _) ?_
        first | exact ⟨congrArg I64 (ixF_at hkl hall h16).symm, rfl⟩ | exact ⟨congrArg I64 (ixF_none (fun j hj => hall j hj (by omega))).symm, rfl⟩
      · skip
        refine gc_skip ?_
        refine gk_block ?_
        refine gk_seq ?_
        refine gc_region ?_
        refine gl_cons (gs_val (val_addI rfl rfl (by omega)) rfl rfl rfl ?_)
        refine gl_cons (gs_val (val_move rfl) rfl rfl rfl ?_)
        refine gl_nil ?_
        refine gk_again (k + 1) ?_ ?_ ?_ ?_
        · exact ⟨by show k + 1 ≤ n; omega, fun j hj h => if e : j = k then (by subst e; exact Decidable.not_not.1 h16) else hall j hj (by omega)⟩
        · show n - (k + 1) < n - k; omega
        · exact (.cons (rfl) (.cons (rfl) (.cons (rfl) (.cons (rfl) .nil))))
        · exact fun _ h => h
    · have hkn : k = n := by omega
      refine gc_exit ?_
      refine gk_seq_exit ?_
      refine gk_loop_exit ?_
      refine gk_block_exit ?_
      refine gk_seq ?_
      refine gc_seq ?_
      refine gc_region ?_
      refine gl_cons (gs_val (val_assign rfl) rfl rfl rfl ?_)
      refine gl_nil ?_
      refine gk_seq ?_
      refine gc_ret ?_
      refine gk_ret rfl (resv_tmp rfl .nil) (List.nil_sublist _) ?_
      first | exact ⟨congrArg I64 (ixF_at hkl hall h16).symm, rfl⟩ | exact ⟨congrArg I64 (ixF_none (fun j hj => hall j hj (by omega))).symm, rfl⟩

/-- slices.Contains[[]bool,bool] -/
theorem containsF_spec (ba : Option Addr) (n c : Nat) (l : List Bool) (hn : l.length = n) (hb : n ≤ 140737488351232) : Pure Try.prog 103 ([.slice ba n c, .bool false]).toArray (fun w => Row w [] ba (l.map Value.bool)) (.bool (decide (false ∈ l))) := by
  refine spec_walk (n := 9) Try.func103 rfl rfl rfl (fun w0 hpre => ?_)
  refine gc_seq ?_
  refine gc_region ?_
  refine gl_cons (gs_val (val_assign rfl) rfl rfl rfl ?_)
  refine gl_nil ?_
  refine gk_seq ?_
  refine gc_seq ?_
  refine gc_region ?_
  refine gl_cons (gs_val (val_move rfl) rfl rfl rfl ?_)
  refine gl_cons (gs_val (val_move rfl) rfl rfl rfl ?_)
  refine gl_cons (gs_pure (enters kcall152 (.cons rfl (.cons rfl .nil))) (indexF_spec ba n c l hn hb) rfl rfl rfl (row_of_sees (sees_row hpre)) ?_)
  refine gl_cons (gs_val (val_geq rfl rfl) rfl rfl rfl ?_)
  refine gl_cons (gs_val (val_assign rfl) rfl rfl rfl ?_)
  refine gl_nil ?_
  refine gk_seq ?_
  refine gc_ret ?_
  refine gk_ret rfl (resv_tmp rfl .nil) (List.nil_sublist _) ?_
  exact ⟨congrArg Value.bool (ixF_iff l), rfl⟩

/-- (*baize/topup.pending).late -/
theorem late_spec (p : Nat) (tb : BitVec 64) (num un : Int) (ax px : Value) (h : Int) : Pure Try.prog 94 ([.pointer (some ⟨p, 0, none⟩), I64 h]).toArray (fun w => Row w [] (some ⟨p, 0, none⟩) (pdL tb num ax un px)) (.bool (decide (un < h))) := by
  refine spec_walk (n := 12) Try.func94 rfl rfl rfl (fun w0 hpre => ?_)
  refine gc_seq ?_
  refine gc_region ?_
  refine gl_cons (gs_val (val_assign rfl) rfl rfl rfl ?_)
  refine gl_nil ?_
  refine gk_seq ?_
  refine gc_seq ?_
  refine gc_region ?_
  refine gl_cons (gs_val (val_move rfl) rfl rfl rfl ?_)
  refine gl_cons (gs_val (val_move rfl) rfl rfl rfl ?_)
  refine gl_cons (gs_val (val_nilCheck rfl) rfl rfl rfl ?_)
  refine gl_cons (gs_val (val_fieldAddr kfo157_0 rfl) rfl rfl rfl ?_)
  refine gl_cons (gs_val (val_fieldAddr kfo33_3 rfl) rfl rfl rfl ?_)
  refine gl_cons (gs_val (val_load1 kag3 rfl ((sees_row hpre).part 10) rfl) rfl rfl rfl ?_)
  refine gl_cons (gs_val (val_gtr rfl rfl) rfl rfl rfl ?_)
  refine gl_cons (gs_val (val_assign rfl) rfl rfl rfl ?_)
  refine gl_nil ?_
  refine gk_seq ?_
  refine gc_ret ?_
  refine gk_ret rfl (resv_tmp rfl .nil) (List.nil_sublist _) ?_
  exact ⟨congrArg Value.bool (decide_eq_decide.2 (by omega)), rfl⟩

/-- (*baize/topup.pending).laid -/
theorem laid_spec (p : Nat) (tb : BitVec 64) (num un : Int) (aa pa : Option Addr) (na ca np cp : Nat) (ad : List Int) (pu : List Bool) (ha : ad.length = na) (hp : pu.length = np) (hnp : na = np) (hb : na ≤ 100) : Makes Try.prog 88 ([.pointer (some ⟨p, 0, none⟩)]).toArray (fun w => Row w [] (some ⟨p, 0, none⟩) (pdL tb num (.slice aa na ca) un (.slice pa np cp)) ∧ Row w [] aa (ad.map I64) ∧ Row w [] pa (pu.map Value.bool)) (fun _ : Nat => True) (fun s => .slice (some ⟨s, 0, none⟩) na na) (fun s => [⟨s, .cells ((laidL ad pu).map I64).toArray 3 (0, 0)⟩]) := by
  have hap : ad.length = pu.length := by omega
  refine spec_walk (n := 37) Try.func88 rfl rfl rfl (fun w0 hpre => ?_)
  refine gc_seq ?_
  refine gc_region ?_
  refine gl_cons (gs_val (val_assign rfl) rfl rfl rfl ?_)
  refine gl_nil ?_
  refine gk_seq ?_
  refine gc_seq ?_
  refine gc_region ?_
  refine gl_cons (gs_val (val_move rfl) rfl rfl rfl ?_)
  refine gl_cons (gs_val (val_nilCheck rfl) rfl rfl rfl ?_)
  refine gl_cons (gs_val (val_fieldAddr kfo157_0 rfl) rfl rfl rfl ?_)
  refine gl_cons (gs_val (val_fieldAddr kfo33_2 rfl) rfl rfl rfl ?_)
  refine gl_cons (gs_val (val_load1 kag22 rfl ((sees_row hpre.1).part 9) rfl) rfl rfl rfl ?_)
  refine gl_cons (gs_val (val_lenSli ksl22 rfl) rfl rfl rfl ?_)
  refine gl_cons (gs_make1 (ln := na) (cp := na) ksl22 kze3 rfl rfl rfl rfl rfl (by omega) rfl (by omega) rfl rfl (fun lb => ?_))
  refine gl_cons (gs_val (val_assign rfl) rfl rfl rfl ?_)
  refine gl_nil ?_
  refine gk_seq ?_
  refine gc_seq ?_
  refine gc_seq ?_
  refine gc_region ?_
  refine gl_cons (gs_val (val_move rfl) rfl rfl rfl ?_)
  refine gl_cons (gs_val (val_nilCheck rfl) rfl rfl rfl ?_)
  refine gl_cons (gs_val (val_fieldAddr kfo157_0 rfl) rfl rfl rfl ?_)
  refine gl_cons (gs_val (val_fieldAddr kfo33_2 rfl) rfl rfl rfl ?_)
  refine gl_cons (gs_val (val_load1 kag22 rfl ((sees_row hpre.1).part 9) rfl) rfl rfl rfl ?_)
  refine gl_cons (gs_val (val_lenSli ksl22 rfl) rfl rfl rfl ?_)
  refine gl_cons (gs_val (val_move rfl) rfl rfl rfl ?_)
  refine gl_nil ?_
  refine gk_seq ?_
  refine gc_block ?_
  refine gc_loop (σ := Nat) (I := fun v => v ≤ na) (μ := fun v => na - v) (EI := fun v => [(19, I64 (v : Int)), (0, .pointer (some ⟨p, 0, none⟩)), (3, .slice (some ⟨lb, 0, none⟩) na na), (17, .slice aa na ca), (18, I64 (na : Int))]) (LI := fun v => [⟨lb, .cells ((laidT ad pu v).map I64).toArray 3 (0, 0)⟩]) 0 ?_ ?_ ?_ ?_
  · exact Nat.zero_le _
  · exact (.cons rfl (.cons rfl (.cons rfl (.cons rfl (.cons rfl .nil)))))
  · exact fun _ h => by rw [laidT_zero, ha, List.map_replicate]; exact h
  · intro k hkn'
    have hkn' : k ≤ na := hkn'
    refine gc_seq ?_
    refine gc_region ?_
    refine gl_cons (gs_val (val_lss rfl rfl) rfl rfl rfl ?_)
    refine gl_nil ?_
    refine gk_seq ?_
    refine gc_seq ?_
    refine gc_if rfl (fun hj => ?_) (fun hj => ?_)
    · have hka : k < ad.length := by omega
      have hkp : k < pu.length := by omega
      have hlt := laidT_len hap (k := k) (by omega)
      refine gc_skip ?_
      refine gk_seq ?_
      refine gc_seq ?_
      refine gc_block ?_
      refine gc_seq ?_
      refine gc_region ?_
      refine gl_cons (gs_val (val_move rfl) rfl rfl rfl ?_)
      refine gl_cons (gs_val (val_indexSli (m := k) ksl22 rfl rfl (by omega) (by omega) (sees_row hpre.2.1) (by (try simp only [List.length_map, Nat.mul_one, dig_len, inc_len, List.length_append, List.length_cons, List.length_nil, List.length_replicate]); omega)) rfl rfl rfl ?_)
      refine gl_cons (gs_val (val_load1 kag3 rfl ((sees_row hpre.2.1).elem hka) rfl) rfl rfl rfl ?_)
      refine gl_cons (gs_val (val_assign rfl) rfl rfl rfl ?_)
      refine gl_cons (gs_val (val_assign rfl) rfl rfl rfl ?_)
      refine gl_nil ?_
      refine gk_seq ?_
      refine gc_seq ?_
      refine gc_region ?_
      refine gl_cons (gs_val (val_move rfl) rfl rfl rfl ?_)
      refine gl_cons (gs_val (val_nilCheck rfl) rfl rfl rfl ?_)
      refine gl_cons (gs_val (val_fieldAddr kfo157_1 rfl) rfl rfl rfl ?_)
      refine gl_cons (gs_val (val_load1 kag55 rfl ((sees_row hpre.1).part 11) rfl) rfl rfl rfl ?_)
      refine gl_cons (gs_val (val_move rfl) rfl rfl rfl ?_)
      refine gl_cons (gs_val (val_indexSli (m := k) ksl55 rfl rfl (by omega) (by omega) (sees_row hpre.2.2) (by (try simp only [List.length_map, Nat.mul_one, dig_len, inc_len, List.length_append, List.length_cons, List.length_nil, List.length_replicate]); omega)) rfl rfl rfl ?_)
      refine gl_cons (gs_val (val_cast (v := .bool (decide (pu[k] = true))) (val_load1 kag4 rfl ((sees_row hpre.2.2).elem hkp) rfl) (congrArg Value.bool Bool.decide_eq_true.symm)) rfl rfl rfl ?_)
      refine gl_nil ?_
      refine gk_seq ?_
      refine gc_if rfl (fun h30 => ?_) (fun h30 => ?_)
      · skip
        refine gc_region ?_
        refine gl_cons (gs_val (val_move rfl) rfl rfl rfl ?_)
        refine gl_cons (gs_val (val_move rfl) rfl rfl rfl ?_)
        refine gl_cons (gs_val (val_move rfl) rfl rfl rfl ?_)
        refine gl_cons (gs_val (val_cast (v := .pointer (some ⟨lb, 0 + k * 1, none⟩)) (val_indexSli (m := k) ksl22 rfl rfl rfl (by omega) (sees_all (by repeat (first | exact .head _ | refine .tail _ ?_ | refine List.mem_append_right _ ?_))) (by rw [List.length_map]; omega)) (idx_eq rfl)) rfl rfl rfl ?_)
        refine gl_cons (gs_store ksz3 rfl rfl rfl rfl rfl rfl (by first | exact .head | exact .tail .head | exact .tail (.tail .head) | exact .tail (.tail (.tail .head)) | exact .tail (.tail (.tail (.tail .head))) | exact .tail (.tail (.tail (.tail (.tail .head))))) (by rw [List.length_map]; show 0 + k * 1 + 1 ≤ _; omega) (set_spI _ k _ (by omega)) ?_)
        refine gl_nil ?_
        refine gk_block ?_
        refine gk_seq ?_
        refine gc_region ?_
        refine gl_cons (gs_val (val_addI rfl rfl (by omega)) rfl rfl rfl ?_)
        refine gl_cons (gs_val (val_move rfl) rfl rfl rfl ?_)
        refine gl_nil ?_
        refine gk_again (k + 1) ?_ ?_ ?_ ?_
        · show k + 1 ≤ na; omega
        · show na - (k + 1) < na - k; omega
        · exact (.cons (rfl) (.cons (rfl) (.cons (rfl) (.cons (rfl) (.cons (rfl) .nil)))))
        · first | (rw [← laidT_on hap hka h30]; exact fun _ h => h) | (rw [← laidT_off hap hka h30]; exact fun _ h => h)
      · skip
        refine gc_skip ?_
        refine gk_block ?_
        refine gk_seq ?_
        refine gc_region ?_
        refine gl_cons (gs_val (val_addI rfl rfl (by omega)) rfl rfl rfl ?_)
        refine gl_cons (gs_val (val_move rfl) rfl rfl rfl ?_)
        refine gl_nil ?_
        refine gk_again (k + 1) ?_ ?_ ?_ ?_
        · show k + 1 ≤ na; omega
        · show na - (k + 1) < na - k; omega
        · exact (.cons (rfl) (.cons (rfl) (.cons (rfl) (.cons (rfl) (.cons (rfl) .nil)))))
        · first | (rw [← laidT_on hap hka h30]; exact fun _ h => h) | (rw [← laidT_off hap hka h30]; exact fun _ h => h)
    · obtain rfl : k = na := by omega
      refine gc_exit ?_
      refine gk_seq_exit ?_
      refine gk_loop_exit ?_
      refine gk_block_exit ?_
      refine gk_seq ?_
      refine gc_seq ?_
      refine gc_region ?_
      refine gl_cons (gs_val (val_move rfl) rfl rfl rfl ?_)
      refine gl_cons (gs_val (val_assign rfl) rfl rfl rfl ?_)
      refine gl_nil ?_
      refine gk_seq ?_
      refine gc_ret ?_
      rw [← ha, laidT_all hap]
      refine gk_ret rfl (resv_tmp rfl .nil) (List.Sublist.refl _) ?_
      exact ⟨lb, trivial, by rw [ha]; rfl, rfl⟩

end Go.Proofs.Ytddckbhlfeegoaa
