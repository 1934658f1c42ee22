/- The walk of functions of the program: what each computes, for every input. -/
import Derived.Test.YtddckbhlfeegoaaWBFacts
import Derived.Test.YtddckbhlfeegoaaWBhash
import Derived.Test.YtddckbhlfeegoaaWBref02
namespace Go.Proofs.Ytddckbhlfeegoaa
open Go Go.Eng
set_option linter.unusedVariables false
set_option linter.unusedSimpArgs false

/-- baize/veil.check -/
theorem check_spec (k : BitVec 64) (ba : Option Addr) (n cap : Nat) (l : List UInt8) (hn : l.length = n) (hl : n ≤ 1048576) (hcap : n ≤ cap) : Pure Try.prog 162 ([Dig k, .slice ba n cap]).toArray (fun w => Row w [] ba (l.map U8)) (Dig (checkW k l)) := by
  refine spec_walk (n := 10) Try.func162 rfl rfl rfl (fun w0 hpre => ?_)
  refine gc_seq ?_
  refine gc_region ?_
  refine gl_cons (gs_box rfl rfl rfl rfl (fun b2 => ?_))
  refine gl_cons (gs_alloc kze31 rfl rfl rfl (fun b4 => ?_))
  refine gl_nil ?_
  refine gk_seq ?_
  refine gc_seq ?_
  refine gc_region ?_
  refine gl_cons (gs_val (val_loadA kag31 rfl (sees_mem (by repeat (first | exact .head _ | refine .tail _ ?_ | refine List.mem_append_right _ ?_))) rfl rfl) rfl rfl rfl ?_)
  refine gl_cons (gs_pure (enters kcall130 (.cons rfl (.cons rfl .nil))) (word_spec _ ⟨#[99, 104, 101, 99, 107]⟩ (by decide)) rfl rfl rfl (fun _ _ => trivial) ?_)
  refine gl_cons (gs_val (val_move rfl) rfl rfl rfl ?_)
  refine gl_cons (gs_pure (enters kcall114 (.cons rfl .nil)) (of_spec ba n cap l hn (by omega) hcap) rfl rfl rfl (row_of_sees (sees_row hpre)) ?_)
  refine gl_cons (gs_pure (enters kcall178 (.cons rfl (.cons rfl .nil))) (two_spec _ _) rfl rfl rfl (fun _ _ => trivial) ?_)
  refine gl_cons (gs_store ksz31 rfl rfl rfl rfl rfl rfl (by first | exact .head | exact .tail .head | exact .tail (.tail .head) | exact .tail (.tail (.tail .head)) | exact .tail (.tail (.tail (.tail .head))) | exact .tail (.tail (.tail (.tail (.tail .head))))) (by simp) (by first | ((with_reducible refine splice_all _ _ ?_); simp; done) | (simp only [splice, stL, digL, List.take_succ_cons, List.take_zero, List.drop_succ_cons, List.drop_zero, List.length_cons, List.length_nil, Nat.reduceAdd, Nat.reduceMul, Nat.zero_add, Nat.zero_mul, List.cons_append, List.nil_append]; exact rfl)) ?_)
  refine gl_nil ?_
  refine gk_seq ?_
  refine gc_ret ?_
  refine gk_ret rfl (resv_cellA kag31 rfl (sees_mem (by repeat (first | exact .head _ | refine .tail _ ?_ | refine List.mem_append_right _ ?_))) rfl rfl .nil) (List.nil_sublist _) ?_
  exact ⟨rfl, rfl⟩

/-- baize/baizeref08.check -/
theorem rcheck_spec (k : BitVec 64) (ba : Option Addr) (n cap : Nat) (l : List UInt8) (hn : l.length = n) (hl : n ≤ 1048576) (hcap : n ≤ cap) : Pure Try.prog 165 ([Dig k, .slice ba n cap]).toArray (fun w => Row w [] ba (l.map U8)) (Dig (checkW k l)) := by
  refine spec_walk (n := 10) Try.func165 rfl rfl rfl (fun w0 hpre => ?_)
  refine gc_seq ?_
  refine gc_region ?_
  refine gl_cons (gs_box rfl rfl rfl rfl (fun b2 => ?_))
  refine gl_cons (gs_alloc kze30 rfl rfl rfl (fun b4 => ?_))
  refine gl_nil ?_
  refine gk_seq ?_
  refine gc_seq ?_
  refine gc_region ?_
  refine gl_cons (gs_val (val_loadA kag30 rfl (sees_mem (by repeat (first | exact .head _ | refine .tail _ ?_ | refine List.mem_append_right _ ?_))) rfl rfl) rfl rfl rfl ?_)
  refine gl_cons (gs_pure (enters kcall131 (.cons rfl (.cons rfl .nil))) (rword_spec _ ⟨#[99, 104, 101, 99, 107]⟩ (by decide)) rfl rfl rfl (fun _ _ => trivial) ?_)
  refine gl_cons (gs_val (val_move rfl) rfl rfl rfl ?_)
  refine gl_cons (gs_pure (enters kcall118 (.cons rfl .nil)) (rof_spec ba n cap l hn (by omega)) rfl rfl rfl (row_of_sees (sees_row hpre)) ?_)
  refine gl_cons (gs_pure (enters kcall180 (.cons rfl (.cons rfl .nil))) (rtwo_spec _ _) rfl rfl rfl (fun _ _ => trivial) ?_)
  refine gl_cons (gs_store ksz30 rfl rfl rfl rfl rfl rfl (by first | exact .head | exact .tail .head | exact .tail (.tail .head) | exact .tail (.tail (.tail .head)) | exact .tail (.tail (.tail (.tail .head))) | exact .tail (.tail (.tail (.tail (.tail .head))))) (by simp) (by first | ((with_reducible refine splice_all _ _ ?_); simp; done) | (simp only [splice, stL, digL, List.take_succ_cons, List.take_zero, List.drop_succ_cons, List.drop_zero, List.length_cons, List.length_nil, Nat.reduceAdd, Nat.reduceMul, Nat.zero_add, Nat.zero_mul, List.cons_append, List.nil_append]; exact rfl)) ?_)
  refine gl_nil ?_
  refine gk_seq ?_
  refine gc_ret ?_
  refine gk_ret rfl (resv_cellA kag30 rfl (sees_mem (by repeat (first | exact .head _ | refine .tail _ ?_ | refine List.mem_append_right _ ?_))) rfl rfl .nil) (List.nil_sublist _) ?_
  exact ⟨rfl, rfl⟩

/-- baize/veil.mix -/
theorem mix_spec_v (k w : BitVec 64) (ba : Option Addr) (n cap : Nat) (l : List UInt8) (hn : l.length = n) (hl : n ≤ 1048576) : Makes Try.prog 163 ([Dig k, Dig w, .slice ba n cap]).toArray (fun w => Row w [] ba (l.map U8)) (fun s : Option Addr × Nat × List Ent => Own 5 1 s.1 n s.2.1 ((mixL k w l).map U8) s.2.2) (fun s => .slice s.1 n s.2.1) (fun s => s.2.2) := by
  have hml : (mixL k w l).length = n := by rw [mix_len k w l (by omega)]; exact hn
  have hsl : (boxS k w l.length).length = n := by rw [boxS_len k w l.length (by omega)]; exact hn
  have hbx : hStreamI (hTwo (hWord k wBox) w) (n : Int) = boxS k w l.length := by rw [hn]; rfl
  refine spec_walk (n := 39) Try.func163 rfl rfl rfl (fun w0 hpre => ?_)
  refine gc_seq ?_
  refine gc_region ?_
  refine gl_cons (gs_box rfl rfl rfl rfl (fun b3 => ?_))
  refine gl_cons (gs_box rfl rfl rfl rfl (fun b4 => ?_))
  refine gl_cons (gs_val (val_assign rfl) rfl rfl rfl ?_)
  refine gl_nil ?_
  refine gk_seq ?_
  refine gc_seq ?_
  refine gc_draw (m := 6) kmixed (by kernel_rfl) ?_
  refine gq_val (val_loadA kag31 rfl (sees_mem (by repeat (first | exact .head _ | refine .tail _ ?_ | refine List.mem_append_right _ ?_))) rfl rfl) rfl rfl rfl ?_
  refine gq_pure (enters kcall130 (.cons rfl (.cons rfl .nil))) (word_spec _ ⟨#[98, 111, 120]⟩ (by decide)) rfl rfl rfl (fun _ _ => trivial) ?_
  refine gq_val (val_loadA kag31 rfl (sees_mem (by repeat (first | exact .head _ | refine .tail _ ?_ | refine List.mem_append_right _ ?_))) rfl rfl) rfl rfl rfl ?_
  refine gq_pure (enters kcall178 (.cons rfl (.cons rfl .nil))) (two_spec _ _) rfl rfl rfl (fun _ _ => trivial) ?_
  refine gq_val (val_move rfl) rfl rfl rfl ?_
  refine gq_val (val_lenSli ksl54 rfl) rfl rfl rfl ?_
  refine gq_nil ?_
  refine gl_cons (gs_makes (enters kcall179 (.cons rfl (.cons rfl .nil))) (stream_spec (hTwo (hWord k wBox) w) (n : Int)) rfl rfl rfl (fun _ _ => trivial) (fun ⟨ba16, c16, N16⟩ h16 => ?_))
  have hs16 : Own 5 1 ba16 n c16 ((boxS k w l.length).map U8) N16 := by have := h16; dsimp only at this; rw [hbx, hsl] at this; exact this
  rw [hbx, hsl]
  refine gl_cons (gs_val (val_assign rfl) rfl rfl rfl ?_)
  refine gl_nil ?_
  refine gk_seq ?_
  refine gc_seq ?_
  refine gc_region ?_
  refine gl_cons (gs_val (val_move rfl) rfl rfl rfl ?_)
  refine gl_cons (gs_val (val_lenSli ksl54 rfl) rfl rfl rfl ?_)
  refine gl_cons (gs_make1 (ln := n) (cp := n) ksl54 kze5 rfl rfl rfl rfl rfl (by omega) rfl (by omega) rfl rfl (fun b19 => ?_))
  refine gl_cons (gs_val (val_assign rfl) rfl rfl rfl ?_)
  refine gl_nil ?_
  refine gk_seq ?_
  refine gc_seq ?_
  refine gc_seq ?_
  refine gc_region ?_
  refine gl_cons (gs_val (val_move rfl) rfl rfl rfl ?_)
  refine gl_cons (gs_val (val_lenSli ksl54 rfl) rfl rfl rfl ?_)
  refine gl_cons (gs_val (val_move rfl) rfl rfl rfl ?_)
  refine gl_nil ?_
  refine gk_seq ?_
  refine gc_block ?_
  refine gc_loop (σ := Nat × List Ent) (I := fun v => v.1 ≤ n ∧ Own 5 1 (some ⟨b19, 0, none⟩) n n ((mixK (mixL k w l) n v.1).map U8) v.2) (μ := fun v => n - v.1) (EI := fun v => [(22, I64 (v.1 : Int)), (2, .slice ba n cap), (7, .slice ba16 n c16), (8, .slice (some ⟨b19, 0, none⟩) n n), (21, I64 (n : Int))]) (LI := fun v => v.2 ++ (N16 ++ [⟨b4, .cells (digL w).toArray 31 (0, 0)⟩, ⟨b3, .cells (digL k).toArray 31 (0, 0)⟩])) (0, [⟨b19, .cells (List.replicate n (.int .u8 0)).toArray 5 (0, 0)⟩]) ?_ ?_ ?_ ?_
  · exact ⟨Nat.zero_le _, by rw [mixK_zero]; exact own_zeros rfl (Nat.le_refl _)⟩
  · exact (.cons rfl (.cons rfl (.cons rfl (.cons rfl (.cons rfl .nil)))))
  · exact fun _ h => h
  · intro ⟨j, N⟩ ⟨hjn, hown⟩
    dsimp only
    have hjn : j ≤ n := hjn
    have hown : Own 5 1 (some ⟨b19, 0, none⟩) n n ((mixK (mixL k w l) n j).map U8) N := hown
    refine gc_seq ?_
    refine gc_region ?_
    refine gl_cons (gs_val (val_lss rfl rfl) rfl rfl rfl ?_)
    refine gl_nil ?_
    refine gk_seq ?_
    refine gc_seq ?_
    refine gc_if rfl (fun hj => ?_) (fun hj => ?_)
    · have hj : j < n := by omega
      have hjl : j < l.length := by omega
      have hjs : j < (boxS k w l.length).length := by omega
      have hmk := mixK_len (mixL k w l) n j hml hjn
      refine gc_skip ?_
      refine gk_seq ?_
      refine gc_seq ?_
      refine gc_block ?_
      refine gc_seq ?_
      refine gc_region ?_
      refine gl_cons (gs_val (val_move rfl) rfl rfl rfl ?_)
      refine gl_cons (gs_val (val_assign rfl) rfl rfl rfl ?_)
      refine gl_nil ?_
      refine gk_seq ?_
      refine gc_draw (m := 12) kmixed (by kernel_rfl) ?_
      refine gq_val (val_move rfl) rfl rfl rfl ?_
      refine gq_val (val_move rfl) rfl rfl rfl ?_
      refine gq_val (val_move rfl) rfl rfl rfl ?_
      refine gq_val (val_move rfl) rfl rfl rfl ?_
      refine gq_val (val_indexSli (m := j) ksl54 rfl rfl (by omega) (by omega) (sees_row hpre) (by (try simp only [List.length_map, Nat.mul_one, dig_len, inc_len, List.length_append, List.length_cons, List.length_nil, List.length_replicate]); omega)) rfl rfl rfl ?_
      refine gq_val (val_load1 kag5 rfl ((sees_row hpre).elem hjl) rfl) rfl rfl rfl ?_
      refine gq_val (val_move rfl) rfl rfl rfl ?_
      refine gq_val (val_move rfl) rfl rfl rfl ?_
      refine gq_val (val_indexSli (m := j) ksl54 rfl rfl (by omega) (by omega) (hs16.look (by repeat (first | exact .here | exact .headR | exact .app | refine .tail ?_ | refine .appr ?_))) (by (try simp only [List.length_map, Nat.mul_one, dig_len, inc_len, List.length_append, List.length_cons, List.length_nil, List.length_replicate]); omega)) rfl rfl rfl ?_
      refine gq_val (val_load1 kag5 rfl ((hs16.look (by repeat (first | exact .here | exact .headR | exact .app | refine .tail ?_ | refine .appr ?_))).elem hjs) rfl) rfl rfl rfl ?_
      refine gq_val (val_xor8 rfl rfl) rfl rfl rfl ?_
      refine gq_val (val_indexSli (m := j) ksl54 rfl rfl rfl (by omega) (hown.look (by repeat (first | exact .here | exact .headR | exact .app | refine .tail ?_ | refine .appr ?_))) (by rw [List.length_map, hmk]; omega)) rfl rfl rfl ?_
      refine gq_nil ?_
      refine gl_cons (gs_storeOwn (m := j) (v := U8 (l[j] ^^^ (boxS k w l.length)[j])) ksz5 rfl rfl rfl rfl rfl hown (by rw [List.length_map, hmk]; omega) (fun _ => .app) (fun N2 hin2 => ?_))
      refine gl_nil ?_
      refine gk_block ?_
      refine gk_seq ?_
      refine gc_region ?_
      refine gl_cons (gs_val (val_addI rfl rfl (by omega)) rfl rfl rfl ?_)
      refine gl_cons (gs_val (val_move rfl) rfl rfl rfl ?_)
      refine gl_nil ?_
      refine gk_again (j + 1, N2) ?_ ?_ ?_ ?_
      · exact ⟨by show j + 1 ≤ n; omega, by show Own 5 1 (some ⟨b19, 0, none⟩) n n ((mixK (mixL k w l) n (j + 1)).map U8) N2; rw [← mixK_set _ n j hml hj _ (mix_at k w l j hjl (by omega) (by omega))]; exact hin2⟩
      · show n - (j + 1) < n - j; omega
      · exact (.cons (rfl) (.cons (rfl) (.cons (rfl) (.cons (rfl) (.cons (rfl) .nil)))))
      · exact fun _ h => h
    · have e : n = j := by omega
      subst e
      rw [mixK_full _ n hml] at hown
      refine gc_exit ?_
      refine gk_seq_exit ?_
      refine gk_loop_exit ?_
      refine gk_block_exit ?_
      refine gk_seq ?_
      refine gc_seq ?_
      refine gc_region ?_
      refine gl_cons (gs_val (val_move rfl) rfl rfl rfl ?_)
      refine gl_cons (gs_val (val_assign rfl) rfl rfl rfl ?_)
      refine gl_nil ?_
      refine gk_seq ?_
      refine gc_ret ?_
      refine gk_ret rfl (resv_tmp rfl .nil) (List.sublist_append_left _ _) ?_
      exact ⟨(some ⟨b19, 0, none⟩, n, N), hown, rfl, rfl⟩

/-- baize/baizeref08.turn -/
theorem turn_spec (k w : BitVec 64) (ba : Option Addr) (n cap : Nat) (l : List UInt8) (hn : l.length = n) (hl : n ≤ 1048576) : Makes Try.prog 166 ([Dig k, Dig w, .slice ba n cap]).toArray (fun w => Row w [] ba (l.map U8)) (fun s : Option Addr × Nat × List Ent => Own 5 1 s.1 n s.2.1 ((mixL k w l).map U8) s.2.2) (fun s => .slice s.1 n s.2.1) (fun s => s.2.2) := by
  have hml : (mixL k w l).length = n := by rw [mix_len k w l (by omega)]; exact hn
  have hsl : (boxS k w l.length).length = n := by rw [boxS_len k w l.length (by omega)]; exact hn
  have hbx : hStreamI (hTwo (hWord k wBox) w) (n : Int) = boxS k w l.length := by rw [hn]; rfl
  refine spec_walk (n := 37) Try.func166 rfl rfl rfl (fun w0 hpre => ?_)
  refine gc_seq ?_
  refine gc_region ?_
  refine gl_cons (gs_box rfl rfl rfl rfl (fun b3 => ?_))
  refine gl_cons (gs_box rfl rfl rfl rfl (fun b4 => ?_))
  refine gl_cons (gs_val (val_assign rfl) rfl rfl rfl ?_)
  refine gl_nil ?_
  refine gk_seq ?_
  refine gc_seq ?_
  refine gc_draw (m := 6) kmixed (by kernel_rfl) ?_
  refine gq_val (val_loadA kag30 rfl (sees_mem (by repeat (first | exact .head _ | refine .tail _ ?_ | refine List.mem_append_right _ ?_))) rfl rfl) rfl rfl rfl ?_
  refine gq_pure (enters kcall131 (.cons rfl (.cons rfl .nil))) (rword_spec _ ⟨#[98, 111, 120]⟩ (by decide)) rfl rfl rfl (fun _ _ => trivial) ?_
  refine gq_val (val_loadA kag30 rfl (sees_mem (by repeat (first | exact .head _ | refine .tail _ ?_ | refine List.mem_append_right _ ?_))) rfl rfl) rfl rfl rfl ?_
  refine gq_pure (enters kcall180 (.cons rfl (.cons rfl .nil))) (rtwo_spec _ _) rfl rfl rfl (fun _ _ => trivial) ?_
  refine gq_val (val_move rfl) rfl rfl rfl ?_
  refine gq_val (val_lenSli ksl54 rfl) rfl rfl rfl ?_
  refine gq_nil ?_
  refine gl_cons (gs_makes (enters kcall181 (.cons rfl (.cons rfl .nil))) (rstream_spec (hTwo (hWord k wBox) w) (n : Int)) rfl rfl rfl (fun _ _ => trivial) (fun ⟨ba16, c16, N16⟩ h16 => ?_))
  have hs16 : Own 5 1 ba16 n c16 ((boxS k w l.length).map U8) N16 := by have := h16; dsimp only at this; rw [hbx, hsl] at this; exact this
  rw [hbx, hsl]
  refine gl_cons (gs_val (val_assign rfl) rfl rfl rfl ?_)
  refine gl_nil ?_
  refine gk_seq ?_
  refine gc_seq ?_
  refine gc_region ?_
  refine gl_cons (gs_buildSlice (zs := []) ksl54 kze5 rfl rfl .nil .nil rfl rfl (fun b17 => ?_))
  refine gl_cons (gs_val (val_assign rfl) rfl rfl rfl ?_)
  refine gl_nil ?_
  refine gk_seq ?_
  refine gc_seq ?_
  refine gc_seq ?_
  refine gc_region ?_
  refine gl_cons (gs_val (val_assign rfl) rfl rfl rfl ?_)
  refine gl_nil ?_
  refine gk_seq ?_
  refine gc_block ?_
  refine gc_loop (σ := Nat × Option Addr × Nat × List Ent) (I := fun v => v.1 ≤ n ∧ Own 5 1 v.2.1 v.1 v.2.2.1 (((mixL k w l).take v.1).map U8) v.2.2.2) (μ := fun v => n - v.1) (EI := fun v => [(8, .slice v.2.1 v.1 v.2.2.1), (9, I64 (v.1 : Int)), (2, .slice ba n cap), (7, .slice ba16 n c16)]) (LI := fun v => v.2.2.2 ++ (N16 ++ [⟨b4, .cells (digL w).toArray 30 (0, 0)⟩, ⟨b3, .cells (digL k).toArray 30 (0, 0)⟩])) (0, some ⟨b17, 0, none⟩, 0, [⟨b17, .cells ([] : List Value).toArray 5 (0, 0)⟩]) ?_ ?_ ?_ ?_
  · exact ⟨Nat.zero_le _, own_lit (xs := []) rfl⟩
  · exact (.cons rfl (.cons rfl (.cons rfl (.cons rfl .nil))))
  · exact fun _ h => h
  · intro ⟨j, ba', c', N⟩ ⟨hjn, hown⟩
    dsimp only
    have hjn : j ≤ n := hjn
    have hown : Own 5 1 ba' j c' (((mixL k w l).take j).map U8) N := hown
    refine gc_seq ?_
    refine gc_seq ?_
    refine gc_region ?_
    refine gl_cons (gs_val (val_move rfl) rfl rfl rfl ?_)
    refine gl_cons (gs_val (val_move rfl) rfl rfl rfl ?_)
    refine gl_cons (gs_val (val_lenSli ksl54 rfl) rfl rfl rfl ?_)
    refine gl_cons (gs_val (val_lss rfl rfl) rfl rfl rfl ?_)
    refine gl_nil ?_
    refine gk_seq ?_
    refine gc_if rfl (fun hj => ?_) (fun hj => ?_)
    · have hj : j < n := by omega
      have hjl : j < l.length := by omega
      have hjs : j < (boxS k w l.length).length := by omega
      refine gc_skip ?_
      refine gk_seq ?_
      refine gc_seq ?_
      refine gc_block ?_
      refine ga_start (m := 13) (ls := [false, false, false, false, false, false, false, false, false, false, false, false, false]) kmixed rfl rfl ?_
      apply share0  (m' := 3) (ls' := [true, true, true, true, true, true, true, true, true, true, false, false, false])
      · intro hD0
        apply share0  (m' := 5) (ls' := [true, true, true, true, true, true, true, true, false, false, false, false, false])
        · intro hD1
          apply share0  (m' := 5) (ls' := [true, true, true, true, false, true, true, true, true, false, false, false, false])
          · intro hD2
            apply share0  (m' := 6) (ls' := [true, true, true, true, false, true, true, true, false, false, false, false, false])
            · intro hD3
              refine ga_take (i := 0) (ls' := [true, false, false, false, false, false, false, false, false, false, false, false, false]) rfl (by kernel_rfl) rfl (fun _ _ _ => val_move rfl) rfl rfl rfl ?_
              refine ga_take (i := 1) (ls' := [true, true, false, false, false, false, false, false, false, false, false, false, false]) rfl (by kernel_rfl) rfl (fun _ _ _ => val_move rfl) rfl rfl rfl ?_
              refine ga_take (i := 2) (ls' := [true, true, true, false, false, false, false, false, false, false, false, false, false]) rfl (by kernel_rfl) rfl (fun _ _ _ => val_move rfl) rfl rfl rfl ?_
              refine ga_take (i := 5) (ls' := [true, true, true, false, false, true, false, false, false, false, false, false, false]) rfl (by kernel_rfl) rfl (fun _ _ _ => val_move rfl) rfl rfl rfl ?_
              refine ga_take (i := 6) (ls' := [true, true, true, false, false, true, true, false, false, false, false, false, false]) rfl (by kernel_rfl) rfl (fun _ _ _ => val_move rfl) rfl rfl rfl ?_
              refine ga_branch (rs := [3, 7]) (by kernel_rfl) rfl (.cons (ls' := [true, true, true, true, false, true, true, false, false, false, false, false, false]) rfl rfl ?_ (.cons (ls' := [true, true, true, false, false, true, true, true, false, false, false, false, false]) rfl rfl ?_ .nil))
              · skip
                refine gs_val (val_indexSli (m := j) ksl54 rfl rfl (by omega) (by omega) (sees_row hpre) (by (try simp only [List.length_map, Nat.mul_one, dig_len, inc_len, List.length_append, List.length_cons, List.length_nil, List.length_replicate]); omega)) rfl rfl rfl ?_
                refine ga_branch (rs := [4, 7]) (by kernel_rfl) rfl (.cons (ls' := [true, true, true, true, true, true, true, false, false, false, false, false, false]) rfl rfl ?_ (.cons (ls' := [true, true, true, true, false, true, true, true, false, false, false, false, false]) rfl rfl ?_ .nil))
                · skip
                  refine gs_val (val_load1 kag5 rfl ((sees_row hpre).elem hjl) rfl) rfl rfl rfl ?_
                  refine ga_branch (rs := [7]) (by kernel_rfl) rfl (.cons (ls' := [true, true, true, true, true, true, true, true, false, false, false, false, false]) rfl rfl ?_ .nil)
                  refine gs_val (val_indexSli (m := j) ksl54 rfl rfl (by omega) (by omega) (hs16.look (by repeat (first | exact .here | exact .headR | exact .app | refine .tail ?_ | refine .appr ?_))) (by (try simp only [List.length_map, Nat.mul_one, dig_len, inc_len, List.length_append, List.length_cons, List.length_nil, List.length_replicate]); omega)) rfl rfl rfl ?_
                  refine gx_env (F := [(2, _), (7, _), (8, _), (9, _), (18, _), (19, _), (20, _), (21, _), (24, _), (25, _), (26, _), (27, _), (28, _), (29, _), (30, _), (31, _)]) (.cons rfl (.cons rfl (.cons rfl (.cons rfl (.cons rfl (.cons rfl (.cons rfl (.cons rfl (.cons rfl (.cons rfl (.cons rfl (.cons rfl (.cons rfl (.cons rfl (.cons rfl (.cons rfl .nil)))))))))))))))) (gx_perm (by first | exact .refl _ | (repeat (first | exact .refl _ | refine perm_take (by first | exact .head | exact .tail .head | exact .tail (.tail .head) | exact .tail (.tail (.tail .head)) | exact .tail (.tail (.tail (.tail .head))) | exact .tail (.tail (.tail (.tail (.tail .head))))) ?_ | refine perm_takeL (by repeat (first | exact .app | exact .here | apply TakeL.tail | apply TakeL.appr)) ?_ | refine perm_takeX (by repeat (first | exact .cons .head .nil | apply TakeL.tail | apply TakeL.appr)) ?_))) (hD1  True.intro))
                · skip
                  refine gs_val (val_indexSli (m := j) ksl54 rfl rfl (by omega) (by omega) (hs16.look (by repeat (first | exact .here | exact .headR | exact .app | refine .tail ?_ | refine .appr ?_))) (by (try simp only [List.length_map, Nat.mul_one, dig_len, inc_len, List.length_append, List.length_cons, List.length_nil, List.length_replicate]); omega)) rfl rfl rfl ?_
                  refine gx_env (F := [(2, _), (7, _), (8, _), (9, _), (18, _), (19, _), (20, _), (21, _), (24, _), (25, _), (26, _), (27, _), (29, _), (30, _), (31, _)]) (.cons rfl (.cons rfl (.cons rfl (.cons rfl (.cons rfl (.cons rfl (.cons rfl (.cons rfl (.cons rfl (.cons rfl (.cons rfl (.cons rfl (.cons rfl (.cons rfl (.cons rfl .nil))))))))))))))) (gx_perm (by first | exact .refl _ | (repeat (first | exact .refl _ | refine perm_take (by first | exact .head | exact .tail .head | exact .tail (.tail .head) | exact .tail (.tail (.tail .head)) | exact .tail (.tail (.tail (.tail .head))) | exact .tail (.tail (.tail (.tail (.tail .head))))) ?_ | refine perm_takeL (by repeat (first | exact .app | exact .here | apply TakeL.tail | apply TakeL.appr)) ?_ | refine perm_takeX (by repeat (first | exact .cons .head .nil | apply TakeL.tail | apply TakeL.appr)) ?_))) (hD3  True.intro))
              · skip
                refine gs_val (val_indexSli (m := j) ksl54 rfl rfl (by omega) (by omega) (hs16.look (by repeat (first | exact .here | exact .headR | exact .app | refine .tail ?_ | refine .appr ?_))) (by (try simp only [List.length_map, Nat.mul_one, dig_len, inc_len, List.length_append, List.length_cons, List.length_nil, List.length_replicate]); omega)) rfl rfl rfl ?_
                refine ga_branch (rs := [3, 8]) (by kernel_rfl) rfl (.cons (ls' := [true, true, true, true, false, true, true, true, false, false, false, false, false]) rfl rfl ?_ (.cons (ls' := [true, true, true, false, false, true, true, true, true, false, false, false, false]) rfl rfl ?_ .nil))
                · skip
                  refine gs_val (val_indexSli (m := j) ksl54 rfl rfl (by omega) (by omega) (sees_row hpre) (by (try simp only [List.length_map, Nat.mul_one, dig_len, inc_len, List.length_append, List.length_cons, List.length_nil, List.length_replicate]); omega)) rfl rfl rfl ?_
                  refine gx_env (F := [(2, _), (7, _), (8, _), (9, _), (18, _), (19, _), (20, _), (21, _), (24, _), (25, _), (26, _), (27, _), (29, _), (30, _), (31, _)]) (.cons rfl (.cons rfl (.cons rfl (.cons rfl (.cons rfl (.cons rfl (.cons rfl (.cons rfl (.cons rfl (.cons rfl (.cons rfl (.cons rfl (.cons rfl (.cons rfl (.cons rfl .nil))))))))))))))) (gx_perm (by first | exact .refl _ | (repeat (first | exact .refl _ | refine perm_take (by first | exact .head | exact .tail .head | exact .tail (.tail .head) | exact .tail (.tail (.tail .head)) | exact .tail (.tail (.tail (.tail .head))) | exact .tail (.tail (.tail (.tail (.tail .head))))) ?_ | refine perm_takeL (by repeat (first | exact .app | exact .here | apply TakeL.tail | apply TakeL.appr)) ?_ | refine perm_takeX (by repeat (first | exact .cons .head .nil | apply TakeL.tail | apply TakeL.appr)) ?_))) (hD3  True.intro))
                · skip
                  refine gs_val (val_load1 kag5 rfl ((hs16.look (by repeat (first | exact .here | exact .headR | exact .app | refine .tail ?_ | refine .appr ?_))).elem hjs) rfl) rfl rfl rfl ?_
                  refine ga_branch (rs := [3]) (by kernel_rfl) rfl (.cons (ls' := [true, true, true, true, false, true, true, true, true, false, false, false, false]) rfl rfl ?_ .nil)
                  refine gs_val (val_indexSli (m := j) ksl54 rfl rfl (by omega) (by omega) (sees_row hpre) (by (try simp only [List.length_map, Nat.mul_one, dig_len, inc_len, List.length_append, List.length_cons, List.length_nil, List.length_replicate]); omega)) rfl rfl rfl ?_
                  refine gx_env (F := [(2, _), (7, _), (8, _), (9, _), (18, _), (19, _), (20, _), (21, _), (24, _), (25, _), (26, _), (27, _), (29, _), (30, _), (31, _), (32, _)]) (.cons rfl (.cons rfl (.cons rfl (.cons rfl (.cons rfl (.cons rfl (.cons rfl (.cons rfl (.cons rfl (.cons rfl (.cons rfl (.cons rfl (.cons rfl (.cons rfl (.cons rfl (.cons rfl .nil)))))))))))))))) (gx_perm (by first | exact .refl _ | (repeat (first | exact .refl _ | refine perm_take (by first | exact .head | exact .tail .head | exact .tail (.tail .head) | exact .tail (.tail (.tail .head)) | exact .tail (.tail (.tail (.tail .head))) | exact .tail (.tail (.tail (.tail (.tail .head))))) ?_ | refine perm_takeL (by repeat (first | exact .app | exact .here | apply TakeL.tail | apply TakeL.appr)) ?_ | refine perm_takeX (by repeat (first | exact .cons .head .nil | apply TakeL.tail | apply TakeL.appr)) ?_))) (hD2  True.intro))
            · rintro  _
              refine ga_branch (rs := [4, 8]) (by kernel_rfl) rfl (.cons (ls' := [true, true, true, true, true, true, true, true, false, false, false, false, false]) rfl rfl ?_ (.cons (ls' := [true, true, true, true, false, true, true, true, true, false, false, false, false]) rfl rfl ?_ .nil))
              · skip
                refine gs_val (val_load1 kag5 rfl ((sees_row hpre).elem hjl) rfl) rfl rfl rfl ?_
                refine gx_env (F := [(2, _), (7, _), (8, _), (9, _), (18, _), (19, _), (20, _), (21, _), (24, _), (25, _), (26, _), (27, _), (28, _), (29, _), (30, _), (31, _)]) (.cons rfl (.cons rfl (.cons rfl (.cons rfl (.cons rfl (.cons rfl (.cons rfl (.cons rfl (.cons rfl (.cons rfl (.cons rfl (.cons rfl (.cons rfl (.cons rfl (.cons rfl (.cons rfl .nil)))))))))))))))) (gx_perm (by first | exact .refl _ | (repeat (first | exact .refl _ | refine perm_take (by first | exact .head | exact .tail .head | exact .tail (.tail .head) | exact .tail (.tail (.tail .head)) | exact .tail (.tail (.tail (.tail .head))) | exact .tail (.tail (.tail (.tail (.tail .head))))) ?_ | refine perm_takeL (by repeat (first | exact .app | exact .here | apply TakeL.tail | apply TakeL.appr)) ?_ | refine perm_takeX (by repeat (first | exact .cons .head .nil | apply TakeL.tail | apply TakeL.appr)) ?_))) (hD1  True.intro))
              · skip
                refine gs_val (val_load1 kag5 rfl ((hs16.look (by repeat (first | exact .here | exact .headR | exact .app | refine .tail ?_ | refine .appr ?_))).elem hjs) rfl) rfl rfl rfl ?_
                refine gx_env (F := [(2, _), (7, _), (8, _), (9, _), (18, _), (19, _), (20, _), (21, _), (24, _), (25, _), (26, _), (27, _), (29, _), (30, _), (31, _), (32, _)]) (.cons rfl (.cons rfl (.cons rfl (.cons rfl (.cons rfl (.cons rfl (.cons rfl (.cons rfl (.cons rfl (.cons rfl (.cons rfl (.cons rfl (.cons rfl (.cons rfl (.cons rfl (.cons rfl .nil)))))))))))))))) (gx_perm (by first | exact .refl _ | (repeat (first | exact .refl _ | refine perm_take (by first | exact .head | exact .tail .head | exact .tail (.tail .head) | exact .tail (.tail (.tail .head)) | exact .tail (.tail (.tail (.tail .head))) | exact .tail (.tail (.tail (.tail (.tail .head))))) ?_ | refine perm_takeL (by repeat (first | exact .app | exact .here | apply TakeL.tail | apply TakeL.appr)) ?_ | refine perm_takeX (by repeat (first | exact .cons .head .nil | apply TakeL.tail | apply TakeL.appr)) ?_))) (hD2  True.intro))
          · rintro  _
            refine ga_branch (rs := [4]) (by kernel_rfl) rfl (.cons (ls' := [true, true, true, true, true, true, true, true, true, false, false, false, false]) rfl rfl ?_ .nil)
            refine gs_val (val_load1 kag5 rfl ((sees_row hpre).elem hjl) rfl) rfl rfl rfl ?_
            refine ga_take (i := 9) (ls' := [true, true, true, true, true, true, true, true, true, true, false, false, false]) rfl (by kernel_rfl) rfl (fun _ _ _ => val_xor8 rfl rfl) rfl rfl rfl ?_
            refine gx_env (F := [(2, _), (7, _), (8, _), (9, _), (18, _), (19, _), (20, _), (21, _), (24, _), (25, _), (26, _), (27, _), (28, _), (29, _), (30, _), (31, _), (32, _), (33, _)]) (.cons rfl (.cons rfl (.cons rfl (.cons rfl (.cons rfl (.cons rfl (.cons rfl (.cons rfl (.cons rfl (.cons rfl (.cons rfl (.cons rfl (.cons rfl (.cons rfl (.cons rfl (.cons rfl (.cons rfl (.cons rfl .nil)))))))))))))))))) (gx_perm (by first | exact .refl _ | (repeat (first | exact .refl _ | refine perm_take (by first | exact .head | exact .tail .head | exact .tail (.tail .head) | exact .tail (.tail (.tail .head)) | exact .tail (.tail (.tail (.tail .head))) | exact .tail (.tail (.tail (.tail (.tail .head))))) ?_ | refine perm_takeL (by repeat (first | exact .app | exact .here | apply TakeL.tail | apply TakeL.appr)) ?_ | refine perm_takeX (by repeat (first | exact .cons .head .nil | apply TakeL.tail | apply TakeL.appr)) ?_))) (hD0  True.intro))
        · rintro  _
          refine ga_branch (rs := [8]) (by kernel_rfl) rfl (.cons (ls' := [true, true, true, true, true, true, true, true, true, false, false, false, false]) rfl rfl ?_ .nil)
          refine gs_val (val_load1 kag5 rfl ((hs16.look (by repeat (first | exact .here | exact .headR | exact .app | refine .tail ?_ | refine .appr ?_))).elem hjs) rfl) rfl rfl rfl ?_
          refine ga_take (i := 9) (ls' := [true, true, true, true, true, true, true, true, true, true, false, false, false]) rfl (by kernel_rfl) rfl (fun _ _ _ => val_xor8 rfl rfl) rfl rfl rfl ?_
          refine gx_env (F := [(2, _), (7, _), (8, _), (9, _), (18, _), (19, _), (20, _), (21, _), (24, _), (25, _), (26, _), (27, _), (28, _), (29, _), (30, _), (31, _), (32, _), (33, _)]) (.cons rfl (.cons rfl (.cons rfl (.cons rfl (.cons rfl (.cons rfl (.cons rfl (.cons rfl (.cons rfl (.cons rfl (.cons rfl (.cons rfl (.cons rfl (.cons rfl (.cons rfl (.cons rfl (.cons rfl (.cons rfl .nil)))))))))))))))))) (gx_perm (by first | exact .refl _ | (repeat (first | exact .refl _ | refine perm_take (by first | exact .head | exact .tail .head | exact .tail (.tail .head) | exact .tail (.tail (.tail .head)) | exact .tail (.tail (.tail (.tail .head))) | exact .tail (.tail (.tail (.tail (.tail .head))))) ?_ | refine perm_takeL (by repeat (first | exact .app | exact .here | apply TakeL.tail | apply TakeL.appr)) ?_ | refine perm_takeX (by repeat (first | exact .cons .head .nil | apply TakeL.tail | apply TakeL.appr)) ?_))) (hD0  True.intro))
      · rintro  _
        refine ga_branch (rs := [10]) (by kernel_rfl) rfl (.cons (ls' := [true, true, true, true, true, true, true, true, true, true, true, false, false]) rfl rfl ?_ .nil)
        refine gs_buildSlice (zs := [.int .u8 0]) ksl54 kze5 rfl rfl (.cons rfl .nil) (.cons rfl rfl rfl (by simp) (by first | ((with_reducible refine splice_all _ _ ?_); simp; done) | (simp only [splice, stL, digL, List.take_succ_cons, List.take_zero, List.drop_succ_cons, List.drop_zero, List.length_cons, List.length_nil, Nat.reduceAdd, Nat.reduceMul, Nat.zero_add, Nat.zero_mul, List.cons_append, List.nil_append]; exact rfl)) .nil) rfl rfl (fun b34 => ?_)
        refine ga_branch (rs := [11]) (by kernel_rfl) rfl (.cons (ls' := [true, true, true, true, true, true, true, true, true, true, true, true, false]) rfl rfl ?_ .nil)
        refine gs_append ksl54 kze5 rfl rfl rfl rfl rfl rfl (hown) (fun _ => by first | exact .here | exact .headR | exact .app | exact .tail .here | exact .tail .headR | exact .tail .app | exact .tail (.tail .here) | exact .tail (.tail .headR) | exact .tail (.tail .app) | exact .tail (.tail (.tail .here)) | exact .tail (.tail (.tail .headR)) | exact .tail (.tail (.tail .app)) | exact .tail (.tail (.tail (.tail .here))) | exact .tail (.tail (.tail (.tail .headR))) | exact .tail (.tail (.tail (.tail .app))) | exact .tail (.tail (.tail (.tail (.tail .here)))) | exact .tail (.tail (.tail (.tail (.tail .headR)))) | exact .tail (.tail (.tail (.tail (.tail .app)))) | exact .appr .here | exact .appr .headR | exact .appr .app | exact .tail (.appr .here) | exact .tail (.appr .headR) | exact .tail (.appr .app) | exact .tail (.tail (.appr .here)) | exact .tail (.tail (.appr .headR)) | exact .tail (.tail (.appr .app)) | exact .appr (.tail .here) | exact .appr (.tail .headR) | exact .appr (.tail .app) | exact .appr (.tail (.tail .here)) | exact .appr (.tail (.tail .headR)) | exact .appr (.tail (.tail .app)) | exact .appr (.appr .here) | exact .appr (.appr .headR) | exact .appr (.appr .app) | exact .tail (.appr (.appr .here)) | exact .tail (.appr (.appr .headR)) | exact .tail (.appr (.appr .app)) | exact .appr (.appr (.tail .here)) | exact .appr (.appr (.tail .headR)) | exact .appr (.appr (.tail .app)) | exact .appr (.appr (.appr .here)) | exact .appr (.appr (.appr .headR)) | exact .appr (.appr (.appr .app))) (brings_slice ksl54 (sees_all (by repeat (first | exact .head _ | refine .tail _ ?_ | refine List.mem_append_right _ ?_))) rfl (one_map (f := U8) (fun _ => rfl) [l[j] ^^^ (boxS k w l.length)[j]])) (by omega) (fun ba35 c35 N35 hown35 => ?_)
        refine ga_take (i := 12) (ls' := [true, true, true, true, true, true, true, true, true, true, true, true, true]) rfl (by kernel_rfl) rfl (fun _ _ _ => val_assign rfl) rfl rfl rfl ?_
        refine ga_done (by kernel_rfl) ?_
        refine gk_block ?_
        refine gk_seq ?_
        refine gc_region ?_
        refine gl_cons (gs_val (val_move rfl) rfl rfl rfl ?_)
        refine gl_cons (gs_val (val_addI rfl rfl (by omega)) rfl rfl rfl ?_)
        refine gl_cons (gs_val (val_assign rfl) rfl rfl rfl ?_)
        refine gl_nil ?_
        refine gk_again (j + 1, ba35, c35, N35) ?_ ?_ ?_ ?_
        · exact ⟨by show j + 1 ≤ n; omega, by show Own 5 1 ba35 (j + 1) c35 (((mixL k w l).take (j + 1)).map U8) N35; rw [mix_snoc k w l j hjl (by omega) (by omega), List.map_append]; exact hown35⟩
        · show n - (j + 1) < n - j; omega
        · exact (.cons (rfl) (.cons (rfl) (.cons (rfl) (.cons (rfl) .nil))))
        · exact fun _ h => h.sub (List.sublist_cons_self _ _)
    · have e : n = j := by omega
      subst e
      rw [List.take_of_length_le (by omega)] at hown
      refine gc_exit ?_
      refine gk_seq_exit ?_
      refine gk_loop_exit ?_
      refine gk_block_exit ?_
      refine gk_seq ?_
      refine gc_seq ?_
      refine gc_region ?_
      refine gl_cons (gs_val (val_move rfl) rfl rfl rfl ?_)
      refine gl_cons (gs_val (val_assign rfl) rfl rfl rfl ?_)
      refine gl_nil ?_
      refine gk_seq ?_
      refine gc_ret ?_
      refine gk_ret rfl (resv_tmp rfl .nil) (List.sublist_append_left _ _) ?_
      exact ⟨(ba', c', N), hown, rfl, rfl⟩

/-- baize/veil.Seal -/
theorem seal_ok (k : BitVec 64) (ba : Option Addr) (n cap : Nat) (l : List UInt8) (hn : l.length = n) (hl : n ≤ 65536) (hcap : n ≤ cap) : Makes Try.prog 120 ([Dig k, .slice ba n cap]).toArray (fun w => Row w [] ba (l.map U8)) (fun s : Option Addr × Nat × List Ent × Nat => Own s.2.2.2 1 s.1 (sealL k l).length s.2.1 ((sealL k l).map U8) s.2.2.1) (fun s => .slice s.1 (sealL k l).length s.2.1) (fun s => s.2.2.1) := by
  have hsl : (sealL k l).length = 8 + n := by rw [seal_len k l (by omega)]; omega
  have hse : sealL k l = digB (checkW k l) ++ mixL k (checkW k l) l := if_pos (by omega)
  refine spec_walk (n := 18) Try.func120 rfl rfl rfl (fun w0 hpre => ?_)
  refine gc_seq ?_
  refine gc_region ?_
  refine gl_cons (gs_box rfl rfl rfl rfl (fun b2 => ?_))
  refine gl_cons (gs_val (val_assign rfl) rfl rfl rfl ?_)
  refine gl_nil ?_
  refine gk_seq ?_
  refine gc_seq ?_
  refine gc_seq ?_
  refine gc_region ?_
  refine gl_cons (gs_val (val_move rfl) rfl rfl rfl ?_)
  refine gl_cons (gs_val (val_lenSli ksl54 rfl) rfl rfl rfl ?_)
  refine gl_cons (gs_val (val_no (val_gtr rfl rfl) (by omega)) rfl rfl rfl ?_)
  refine gl_nil ?_
  refine gk_seq ?_
  refine gc_false rfl ?_
  refine gc_skip ?_
  refine gk_seq ?_
  refine gc_seq ?_
  refine gc_region ?_
  refine gl_cons (gs_val (val_loadA kag31 rfl (sees_mem (by repeat (first | exact .head _ | refine .tail _ ?_ | refine List.mem_append_right _ ?_))) rfl rfl) rfl rfl rfl ?_)
  refine gl_cons (gs_val (val_move rfl) rfl rfl rfl ?_)
  refine gl_cons (gs_pure (enters kcall162 (.cons rfl (.cons rfl .nil))) (check_spec k ba n cap l hn (by omega) hcap) rfl rfl rfl (row_of_sees (sees_row hpre)) ?_)
  refine gl_cons (gs_alloc kze31 rfl rfl rfl (fun b5 => ?_))
  refine gl_cons (gs_store ksz31 rfl rfl rfl rfl rfl rfl (by first | exact .head | exact .tail .head | exact .tail (.tail .head) | exact .tail (.tail (.tail .head)) | exact .tail (.tail (.tail (.tail .head))) | exact .tail (.tail (.tail (.tail (.tail .head))))) (by simp) (by first | ((with_reducible refine splice_all _ _ ?_); simp; done) | (simp only [splice, stL, digL, List.take_succ_cons, List.take_zero, List.drop_succ_cons, List.drop_zero, List.length_cons, List.length_nil, Nat.reduceAdd, Nat.reduceMul, Nat.zero_add, Nat.zero_mul, List.cons_append, List.nil_append]; exact rfl)) ?_)
  refine gl_nil ?_
  refine gk_seq ?_
  refine gc_seq ?_
  refine ga_start (m := 7) (ls := [false, false, false, false, false, false, false]) kmixed rfl rfl ?_
  apply share0  (m' := 3) (ls' := [true, true, true, true, false, false, false])
  · intro hD0
    refine ga_take (i := 0) (ls' := [true, false, false, false, false, false, false]) rfl (by kernel_rfl) rfl (fun _ _ _ => val_sliceArr kar31 rfl) rfl rfl rfl ?_
    refine ga_take (i := 3) (ls' := [true, false, false, true, false, false, false]) rfl (by kernel_rfl) rfl (fun _ _ _ => val_move rfl) rfl rfl rfl ?_
    refine ga_branch (rs := [1, 2]) (by kernel_rfl) rfl (.cons (ls' := [true, true, false, true, false, false, false]) rfl rfl ?_ (.cons (ls' := [true, false, true, true, false, false, false]) rfl rfl ?_ .nil))
    · skip
      refine gs_val (val_loadA kag31 rfl (sees_mem (by repeat (first | exact .head _ | refine .tail _ ?_ | refine List.mem_append_right _ ?_))) rfl rfl) rfl rfl rfl ?_
      refine ga_branch (rs := [2]) (by kernel_rfl) rfl (.cons (ls' := [true, true, true, true, false, false, false]) rfl rfl ?_ .nil)
      refine gs_val (val_loadA kag31 rfl (sees_mem (by repeat (first | exact .head _ | refine .tail _ ?_ | refine List.mem_append_right _ ?_))) rfl rfl) rfl rfl rfl ?_
      refine gx_env (F := [(0, _), (1, _), (2, _), (4, _), (5, _), (6, _), (7, _), (8, _), (9, _), (10, _), (11, _), (12, _), (13, _), (14, _), (15, _)]) (.cons rfl (.cons rfl (.cons rfl (.cons rfl (.cons rfl (.cons rfl (.cons rfl (.cons rfl (.cons rfl (.cons rfl (.cons rfl (.cons rfl (.cons rfl (.cons rfl (.cons rfl .nil))))))))))))))) (gx_perm (by first | exact .refl _ | (repeat (first | exact .refl _ | refine perm_take (by first | exact .head | exact .tail .head | exact .tail (.tail .head) | exact .tail (.tail (.tail .head)) | exact .tail (.tail (.tail (.tail .head))) | exact .tail (.tail (.tail (.tail (.tail .head))))) ?_ | refine perm_takeL (by repeat (first | exact .app | exact .here | apply TakeL.tail | apply TakeL.appr)) ?_ | refine perm_takeX (by repeat (first | exact .cons .head .nil | apply TakeL.tail | apply TakeL.appr)) ?_))) (hD0  True.intro))
    · skip
      refine gs_val (val_loadA kag31 rfl (sees_mem (by repeat (first | exact .head _ | refine .tail _ ?_ | refine List.mem_append_right _ ?_))) rfl rfl) rfl rfl rfl ?_
      refine ga_branch (rs := [1]) (by kernel_rfl) rfl (.cons (ls' := [true, true, true, true, false, false, false]) rfl rfl ?_ .nil)
      refine gs_val (val_loadA kag31 rfl (sees_mem (by repeat (first | exact .head _ | refine .tail _ ?_ | refine List.mem_append_right _ ?_))) rfl rfl) rfl rfl rfl ?_
      refine gx_env (F := [(0, _), (1, _), (2, _), (4, _), (5, _), (6, _), (7, _), (8, _), (9, _), (10, _), (11, _), (12, _), (13, _), (14, _), (15, _)]) (.cons rfl (.cons rfl (.cons rfl (.cons rfl (.cons rfl (.cons rfl (.cons rfl (.cons rfl (.cons rfl (.cons rfl (.cons rfl (.cons rfl (.cons rfl (.cons rfl (.cons rfl .nil))))))))))))))) (gx_perm (by first | exact .refl _ | (repeat (first | exact .refl _ | refine perm_take (by first | exact .head | exact .tail .head | exact .tail (.tail .head) | exact .tail (.tail (.tail .head)) | exact .tail (.tail (.tail (.tail .head))) | exact .tail (.tail (.tail (.tail (.tail .head))))) ?_ | refine perm_takeL (by repeat (first | exact .app | exact .here | apply TakeL.tail | apply TakeL.appr)) ?_ | refine perm_takeX (by repeat (first | exact .cons .head .nil | apply TakeL.tail | apply TakeL.appr)) ?_))) (hD0  True.intro))
  · rintro  _
    refine ga_branch (rs := [4]) (by kernel_rfl) rfl (.cons (ls' := [true, true, true, true, true, false, false]) rfl rfl ?_ .nil)
    refine gs_makes (enters kcall163 (.cons rfl (.cons rfl (.cons rfl .nil)))) (mix_spec_v k (checkW k l) ba n cap l hn (by omega)) rfl rfl rfl (row_of_sees (sees_row hpre)) (fun ⟨ba16, c16, N16⟩ h16 => ?_)
    refine ga_branch (rs := [5]) (by kernel_rfl) rfl (.cons (ls' := [true, true, true, true, true, true, false]) rfl rfl ?_ .nil)
    refine gs_appendX ksl54 kze5 rfl rfl rfl rfl rfl rfl (own_lit (e := 31) (xs := digL (checkW k l)) rfl) (fun _ => by first | exact .here | exact .headR | exact .app | exact .tail .here | exact .tail .headR | exact .tail .app | exact .tail (.tail .here) | exact .tail (.tail .headR) | exact .tail (.tail .app) | exact .tail (.tail (.tail .here)) | exact .tail (.tail (.tail .headR)) | exact .tail (.tail (.tail .app)) | exact .tail (.tail (.tail (.tail .here))) | exact .tail (.tail (.tail (.tail .headR))) | exact .tail (.tail (.tail (.tail .app))) | exact .tail (.tail (.tail (.tail (.tail .here)))) | exact .tail (.tail (.tail (.tail (.tail .headR)))) | exact .tail (.tail (.tail (.tail (.tail .app)))) | exact .appr .here | exact .appr .headR | exact .appr .app | exact .tail (.appr .here) | exact .tail (.appr .headR) | exact .tail (.appr .app) | exact .tail (.tail (.appr .here)) | exact .tail (.tail (.appr .headR)) | exact .tail (.tail (.appr .app)) | exact .appr (.tail .here) | exact .appr (.tail .headR) | exact .appr (.tail .app) | exact .appr (.tail (.tail .here)) | exact .appr (.tail (.tail .headR)) | exact .appr (.tail (.tail .app)) | exact .appr (.appr .here) | exact .appr (.appr .headR) | exact .appr (.appr .app) | exact .tail (.appr (.appr .here)) | exact .tail (.appr (.appr .headR)) | exact .tail (.appr (.appr .app)) | exact .appr (.appr (.tail .here)) | exact .appr (.appr (.tail .headR)) | exact .appr (.appr (.tail .app)) | exact .appr (.appr (.appr .here)) | exact .appr (.appr (.appr .headR)) | exact .appr (.appr (.appr .app))) (brings_slice ksl54 (h16.look (by repeat (first | exact .here | exact .headR | exact .app | refine .tail ?_ | refine .appr ?_))) (by rw [List.length_map, mix_len _ _ _ (by omega)]; omega) (one_map (fun _ => rfl) _)) (by omega) (fun ba17 c17 N17 e17 hown17 => ?_)
    refine ga_take (i := 6) (ls' := [true, true, true, true, true, true, true]) rfl (by kernel_rfl) rfl (fun _ _ _ => val_assign rfl) rfl rfl rfl ?_
    refine ga_done (by kernel_rfl) ?_
    refine gk_seq ?_
    refine gc_ret ?_
    refine gk_ret rfl (resv_tmp rfl .nil) (M := N17) (by repeat (first | exact List.Sublist.refl _ | exact List.sublist_append_left _ _ | exact List.sublist_append_right _ _ | refine List.Sublist.cons _ ?_ | refine List.Sublist.trans ?_ (List.sublist_append_right _ _))) ?_
    refine ⟨(ba17, c17, N17, e17), ?_, ?_, rfl⟩
    · show Own _ 1 ba17 (sealL k l).length c17 ((sealL k l).map U8) N17
      rw [hsl, hse, List.map_append]
      exact hown17
    · show packed [Value.slice ba17 _ c17] = .slice ba17 (sealL k l).length c17
      rw [hsl]; rfl

/-- baize/baizeref08.Seal -/
theorem rseal_ok (k : BitVec 64) (ba : Option Addr) (n cap : Nat) (l : List UInt8) (hn : l.length = n) (hl : n ≤ 65536) (hcap : n ≤ cap) : Makes Try.prog 128 ([Dig k, .slice ba n cap]).toArray (fun w => Row w [] ba (l.map U8)) (fun s : Option Addr × Nat × List Ent × Nat => Own s.2.2.2 1 s.1 (sealL k l).length s.2.1 ((sealL k l).map U8) s.2.2.1) (fun s => .slice s.1 (sealL k l).length s.2.1) (fun s => s.2.2.1) := by
  have hsl : (sealL k l).length = 8 + n := by rw [seal_len k l (by omega)]; omega
  have hse : sealL k l = digB (checkW k l) ++ mixL k (checkW k l) l := if_pos (by omega)
  refine spec_walk (n := 20) Try.func128 rfl rfl rfl (fun w0 hpre => ?_)
  refine gc_seq ?_
  refine gc_region ?_
  refine gl_cons (gs_box rfl rfl rfl rfl (fun b2 => ?_))
  refine gl_cons (gs_val (val_assign rfl) rfl rfl rfl ?_)
  refine gl_nil ?_
  refine gk_seq ?_
  refine gc_seq ?_
  refine gc_seq ?_
  refine gc_region ?_
  refine gl_cons (gs_val (val_move rfl) rfl rfl rfl ?_)
  refine gl_cons (gs_val (val_lenSli ksl54 rfl) rfl rfl rfl ?_)
  refine gl_cons (gs_val (val_no (val_gtr rfl rfl) (by omega)) rfl rfl rfl ?_)
  refine gl_nil ?_
  refine gk_seq ?_
  refine gc_false rfl ?_
  refine gc_skip ?_
  refine gk_seq ?_
  refine gc_seq ?_
  refine gc_region ?_
  refine gl_cons (gs_val (val_loadA kag30 rfl (sees_mem (by repeat (first | exact .head _ | refine .tail _ ?_ | refine List.mem_append_right _ ?_))) rfl rfl) rfl rfl rfl ?_)
  refine gl_cons (gs_val (val_move rfl) rfl rfl rfl ?_)
  refine gl_cons (gs_pure (enters kcall165 (.cons rfl (.cons rfl .nil))) (rcheck_spec k ba n cap l hn (by omega) hcap) rfl rfl rfl (row_of_sees (sees_row hpre)) ?_)
  refine gl_cons (gs_alloc kze30 rfl rfl rfl (fun b5 => ?_))
  refine gl_cons (gs_store ksz30 rfl rfl rfl rfl rfl rfl (by first | exact .head | exact .tail .head | exact .tail (.tail .head) | exact .tail (.tail (.tail .head)) | exact .tail (.tail (.tail (.tail .head))) | exact .tail (.tail (.tail (.tail (.tail .head))))) (by simp) (by first | ((with_reducible refine splice_all _ _ ?_); simp; done) | (simp only [splice, stL, digL, List.take_succ_cons, List.take_zero, List.drop_succ_cons, List.drop_zero, List.length_cons, List.length_nil, Nat.reduceAdd, Nat.reduceMul, Nat.zero_add, Nat.zero_mul, List.cons_append, List.nil_append]; exact rfl)) ?_)
  refine gl_nil ?_
  refine gk_seq ?_
  refine gc_seq ?_
  refine ga_start (m := 9) (ls := [false, false, false, false, false, false, false, false, false]) kmixed rfl rfl ?_
  apply share4 (α := Nat) (β := Option Addr) (γ := Nat) (δ := List Ent) (m' := 3) (ls' := [true, true, true, true, true, true, false, false, false])
  · intro hD0
    apply share4 (α := Nat) (β := Option Addr) (γ := Nat) (δ := List Ent) (m' := 4) (ls' := [true, true, true, true, false, true, false, false, false])
    · intro hD1
      apply share4 (α := Nat) (β := Option Addr) (γ := Nat) (δ := List Ent) (m' := 4) (ls' := [true, true, true, false, true, true, false, false, false])
      · intro hD2
        apply share1 (α := Nat) (m' := 4) (ls' := [true, true, false, true, true, true, false, false, false])
        · intro hD3
          apply share1 (α := Nat) (m' := 5) (ls' := [true, true, false, true, false, true, false, false, false])
          · intro hD4
            apply share1 (α := Nat) (m' := 5) (ls' := [true, true, false, false, true, true, false, false, false])
            · intro hD5
              apply share0  (m' := 5) (ls' := [false, true, false, true, true, true, false, false, false])
              · intro hD6
                refine ga_take (i := 1) (ls' := [false, true, false, false, false, false, false, false, false]) rfl (by kernel_rfl) rfl (fun _ _ _ => val_sliceArr kar30 rfl) rfl rfl rfl ?_
                refine ga_take (i := 5) (ls' := [false, true, false, false, false, true, false, false, false]) rfl (by kernel_rfl) rfl (fun _ _ _ => val_move rfl) rfl rfl rfl ?_
                refine ga_branch (rs := [0, 3, 4]) (by kernel_rfl) rfl (.cons (ls' := [true, true, false, false, false, true, false, false, false]) rfl rfl ?_ (.cons (ls' := [false, true, false, true, false, true, false, false, false]) rfl rfl ?_ (.cons (ls' := [false, true, false, false, true, true, false, false, false]) rfl rfl ?_ .nil)))
                · skip
                  refine gs_buildSlice (zs := []) ksl54 kze5 rfl rfl .nil .nil rfl rfl (fun b12 => ?_)
                  refine ga_branch (rs := [2, 3, 4]) (by kernel_rfl) rfl (.cons (ls' := [true, true, true, false, false, true, false, false, false]) rfl rfl ?_ (.cons (ls' := [true, true, false, true, false, true, false, false, false]) rfl rfl ?_ (.cons (ls' := [true, true, false, false, true, true, false, false, false]) rfl rfl ?_ .nil)))
                  · skip
                    refine gs_append ksl54 kze5 rfl rfl rfl rfl rfl rfl (own_lit (xs := []) rfl) (fun _ => by first | exact .here | exact .headR | exact .app | exact .tail .here | exact .tail .headR | exact .tail .app | exact .tail (.tail .here) | exact .tail (.tail .headR) | exact .tail (.tail .app) | exact .tail (.tail (.tail .here)) | exact .tail (.tail (.tail .headR)) | exact .tail (.tail (.tail .app)) | exact .tail (.tail (.tail (.tail .here))) | exact .tail (.tail (.tail (.tail .headR))) | exact .tail (.tail (.tail (.tail .app))) | exact .tail (.tail (.tail (.tail (.tail .here)))) | exact .tail (.tail (.tail (.tail (.tail .headR)))) | exact .tail (.tail (.tail (.tail (.tail .app)))) | exact .appr .here | exact .appr .headR | exact .appr .app | exact .tail (.appr .here) | exact .tail (.appr .headR) | exact .tail (.appr .app) | exact .tail (.tail (.appr .here)) | exact .tail (.tail (.appr .headR)) | exact .tail (.tail (.appr .app)) | exact .appr (.tail .here) | exact .appr (.tail .headR) | exact .appr (.tail .app) | exact .appr (.tail (.tail .here)) | exact .appr (.tail (.tail .headR)) | exact .appr (.tail (.tail .app)) | exact .appr (.appr .here) | exact .appr (.appr .headR) | exact .appr (.appr .app) | exact .tail (.appr (.appr .here)) | exact .tail (.appr (.appr .headR)) | exact .tail (.appr (.appr .app)) | exact .appr (.appr (.tail .here)) | exact .appr (.appr (.tail .headR)) | exact .appr (.appr (.tail .app)) | exact .appr (.appr (.appr .here)) | exact .appr (.appr (.appr .headR)) | exact .appr (.appr (.appr .app))) (brings_slice ksl54 (sees_all (by repeat (first | exact .head _ | refine .tail _ ?_ | refine List.mem_append_right _ ?_))) rfl (one_dig _)) (by omega) (fun ba14 c14 N14 hown14 => ?_)
                    refine ga_branch (rs := [3, 4]) (by kernel_rfl) rfl (.cons (ls' := [true, true, true, true, false, true, false, false, false]) rfl rfl ?_ (.cons (ls' := [true, true, true, false, true, true, false, false, false]) rfl rfl ?_ .nil))
                    · skip
                      refine gs_val (val_loadA kag30 rfl (sees_mem (by repeat (first | exact .head _ | refine .tail _ ?_ | refine List.mem_append_right _ ?_))) rfl rfl) rfl rfl rfl ?_
                      refine gx_env (F := [(0, _), (1, _), (2, _), (4, _), (5, _), (6, _), (7, _), (8, _), (9, _), (10, _), (11, _), (12, _), (13, _), (14, _), (15, _), (17, _)]) (.cons rfl (.cons rfl (.cons rfl (.cons rfl (.cons rfl (.cons rfl (.cons rfl (.cons rfl (.cons rfl (.cons rfl (.cons rfl (.cons rfl (.cons rfl (.cons rfl (.cons rfl (.cons rfl .nil)))))))))))))))) (gx_perm (by first | exact .refl _ | (repeat (first | exact .refl _ | refine perm_take (by first | exact .head | exact .tail .head | exact .tail (.tail .head) | exact .tail (.tail (.tail .head)) | exact .tail (.tail (.tail (.tail .head))) | exact .tail (.tail (.tail (.tail (.tail .head))))) ?_ | refine perm_takeL (by repeat (first | exact .app | exact .here | apply TakeL.tail | apply TakeL.appr)) ?_ | refine perm_takeX (by repeat (first | exact .cons .head .nil | apply TakeL.tail | apply TakeL.appr)) ?_))) (hD1 b12 ba14 c14 N14 (And.intro hown14 True.intro)))
                    · skip
                      refine gs_val (val_loadA kag30 rfl (sees_mem (by repeat (first | exact .head _ | refine .tail _ ?_ | refine List.mem_append_right _ ?_))) rfl rfl) rfl rfl rfl ?_
                      refine gx_env (F := [(0, _), (1, _), (2, _), (4, _), (5, _), (6, _), (7, _), (8, _), (9, _), (10, _), (11, _), (12, _), (13, _), (14, _), (16, _), (17, _)]) (.cons rfl (.cons rfl (.cons rfl (.cons rfl (.cons rfl (.cons rfl (.cons rfl (.cons rfl (.cons rfl (.cons rfl (.cons rfl (.cons rfl (.cons rfl (.cons rfl (.cons rfl (.cons rfl .nil)))))))))))))))) (gx_perm (by first | exact .refl _ | (repeat (first | exact .refl _ | refine perm_take (by first | exact .head | exact .tail .head | exact .tail (.tail .head) | exact .tail (.tail (.tail .head)) | exact .tail (.tail (.tail (.tail .head))) | exact .tail (.tail (.tail (.tail (.tail .head))))) ?_ | refine perm_takeL (by repeat (first | exact .app | exact .here | apply TakeL.tail | apply TakeL.appr)) ?_ | refine perm_takeX (by repeat (first | exact .cons .head .nil | apply TakeL.tail | apply TakeL.appr)) ?_))) (hD2 b12 ba14 c14 N14 (And.intro hown14 True.intro)))
                  · skip
                    refine gs_val (val_loadA kag30 rfl (sees_mem (by repeat (first | exact .head _ | refine .tail _ ?_ | refine List.mem_append_right _ ?_))) rfl rfl) rfl rfl rfl ?_
                    refine gx_env (F := [(0, _), (1, _), (2, _), (4, _), (5, _), (6, _), (7, _), (8, _), (9, _), (10, _), (11, _), (12, _), (13, _), (15, _), (17, _)]) (.cons rfl (.cons rfl (.cons rfl (.cons rfl (.cons rfl (.cons rfl (.cons rfl (.cons rfl (.cons rfl (.cons rfl (.cons rfl (.cons rfl (.cons rfl (.cons rfl (.cons rfl .nil))))))))))))))) (gx_perm (by first | exact .refl _ | (repeat (first | exact .refl _ | refine perm_take (by first | exact .head | exact .tail .head | exact .tail (.tail .head) | exact .tail (.tail (.tail .head)) | exact .tail (.tail (.tail (.tail .head))) | exact .tail (.tail (.tail (.tail (.tail .head))))) ?_ | refine perm_takeL (by repeat (first | exact .app | exact .here | apply TakeL.tail | apply TakeL.appr)) ?_ | refine perm_takeX (by repeat (first | exact .cons .head .nil | apply TakeL.tail | apply TakeL.appr)) ?_))) (hD4 b12 True.intro))
                  · skip
                    refine gs_val (val_loadA kag30 rfl (sees_mem (by repeat (first | exact .head _ | refine .tail _ ?_ | refine List.mem_append_right _ ?_))) rfl rfl) rfl rfl rfl ?_
                    refine gx_env (F := [(0, _), (1, _), (2, _), (4, _), (5, _), (6, _), (7, _), (8, _), (9, _), (10, _), (11, _), (12, _), (13, _), (16, _), (17, _)]) (.cons rfl (.cons rfl (.cons rfl (.cons rfl (.cons rfl (.cons rfl (.cons rfl (.cons rfl (.cons rfl (.cons rfl (.cons rfl (.cons rfl (.cons rfl (.cons rfl (.cons rfl .nil))))))))))))))) (gx_perm (by first | exact .refl _ | (repeat (first | exact .refl _ | refine perm_take (by first | exact .head | exact .tail .head | exact .tail (.tail .head) | exact .tail (.tail (.tail .head)) | exact .tail (.tail (.tail (.tail .head))) | exact .tail (.tail (.tail (.tail (.tail .head))))) ?_ | refine perm_takeL (by repeat (first | exact .app | exact .here | apply TakeL.tail | apply TakeL.appr)) ?_ | refine perm_takeX (by repeat (first | exact .cons .head .nil | apply TakeL.tail | apply TakeL.appr)) ?_))) (hD5 b12 True.intro))
                · skip
                  refine gs_val (val_loadA kag30 rfl (sees_mem (by repeat (first | exact .head _ | refine .tail _ ?_ | refine List.mem_append_right _ ?_))) rfl rfl) rfl rfl rfl ?_
                  refine ga_branch (rs := [0, 4]) (by kernel_rfl) rfl (.cons (ls' := [true, true, false, true, false, true, false, false, false]) rfl rfl ?_ (.cons (ls' := [false, true, false, true, true, true, false, false, false]) rfl rfl ?_ .nil))
                  · skip
                    refine gs_buildSlice (zs := []) ksl54 kze5 rfl rfl .nil .nil rfl rfl (fun b12 => ?_)
                    refine gx_env (F := [(0, _), (1, _), (2, _), (4, _), (5, _), (6, _), (7, _), (8, _), (9, _), (10, _), (11, _), (12, _), (13, _), (15, _), (17, _)]) (.cons rfl (.cons rfl (.cons rfl (.cons rfl (.cons rfl (.cons rfl (.cons rfl (.cons rfl (.cons rfl (.cons rfl (.cons rfl (.cons rfl (.cons rfl (.cons rfl (.cons rfl .nil))))))))))))))) (gx_perm (by first | exact .refl _ | (repeat (first | exact .refl _ | refine perm_take (by first | exact .head | exact .tail .head | exact .tail (.tail .head) | exact .tail (.tail (.tail .head)) | exact .tail (.tail (.tail (.tail .head))) | exact .tail (.tail (.tail (.tail (.tail .head))))) ?_ | refine perm_takeL (by repeat (first | exact .app | exact .here | apply TakeL.tail | apply TakeL.appr)) ?_ | refine perm_takeX (by repeat (first | exact .cons .head .nil | apply TakeL.tail | apply TakeL.appr)) ?_))) (hD4 b12 True.intro))
                  · skip
                    refine gs_val (val_loadA kag30 rfl (sees_mem (by repeat (first | exact .head _ | refine .tail _ ?_ | refine List.mem_append_right _ ?_))) rfl rfl) rfl rfl rfl ?_
                    refine gx_env (F := [(0, _), (1, _), (2, _), (4, _), (5, _), (6, _), (7, _), (8, _), (9, _), (10, _), (11, _), (13, _), (15, _), (16, _), (17, _)]) (.cons rfl (.cons rfl (.cons rfl (.cons rfl (.cons rfl (.cons rfl (.cons rfl (.cons rfl (.cons rfl (.cons rfl (.cons rfl (.cons rfl (.cons rfl (.cons rfl (.cons rfl .nil))))))))))))))) (gx_perm (by first | exact .refl _ | (repeat (first | exact .refl _ | refine perm_take (by first | exact .head | exact .tail .head | exact .tail (.tail .head) | exact .tail (.tail (.tail .head)) | exact .tail (.tail (.tail (.tail .head))) | exact .tail (.tail (.tail (.tail (.tail .head))))) ?_ | refine perm_takeL (by repeat (first | exact .app | exact .here | apply TakeL.tail | apply TakeL.appr)) ?_ | refine perm_takeX (by repeat (first | exact .cons .head .nil | apply TakeL.tail | apply TakeL.appr)) ?_))) (hD6  True.intro))
                · skip
                  refine gs_val (val_loadA kag30 rfl (sees_mem (by repeat (first | exact .head _ | refine .tail _ ?_ | refine List.mem_append_right _ ?_))) rfl rfl) rfl rfl rfl ?_
                  refine ga_branch (rs := [0, 3]) (by kernel_rfl) rfl (.cons (ls' := [true, true, false, false, true, true, false, false, false]) rfl rfl ?_ (.cons (ls' := [false, true, false, true, true, true, false, false, false]) rfl rfl ?_ .nil))
                  · skip
                    refine gs_buildSlice (zs := []) ksl54 kze5 rfl rfl .nil .nil rfl rfl (fun b12 => ?_)
                    refine gx_env (F := [(0, _), (1, _), (2, _), (4, _), (5, _), (6, _), (7, _), (8, _), (9, _), (10, _), (11, _), (12, _), (13, _), (16, _), (17, _)]) (.cons rfl (.cons rfl (.cons rfl (.cons rfl (.cons rfl (.cons rfl (.cons rfl (.cons rfl (.cons rfl (.cons rfl (.cons rfl (.cons rfl (.cons rfl (.cons rfl (.cons rfl .nil))))))))))))))) (gx_perm (by first | exact .refl _ | (repeat (first | exact .refl _ | refine perm_take (by first | exact .head | exact .tail .head | exact .tail (.tail .head) | exact .tail (.tail (.tail .head)) | exact .tail (.tail (.tail (.tail .head))) | exact .tail (.tail (.tail (.tail (.tail .head))))) ?_ | refine perm_takeL (by repeat (first | exact .app | exact .here | apply TakeL.tail | apply TakeL.appr)) ?_ | refine perm_takeX (by repeat (first | exact .cons .head .nil | apply TakeL.tail | apply TakeL.appr)) ?_))) (hD5 b12 True.intro))
                  · skip
                    refine gs_val (val_loadA kag30 rfl (sees_mem (by repeat (first | exact .head _ | refine .tail _ ?_ | refine List.mem_append_right _ ?_))) rfl rfl) rfl rfl rfl ?_
                    refine gx_env (F := [(0, _), (1, _), (2, _), (4, _), (5, _), (6, _), (7, _), (8, _), (9, _), (10, _), (11, _), (13, _), (15, _), (16, _), (17, _)]) (.cons rfl (.cons rfl (.cons rfl (.cons rfl (.cons rfl (.cons rfl (.cons rfl (.cons rfl (.cons rfl (.cons rfl (.cons rfl (.cons rfl (.cons rfl (.cons rfl (.cons rfl .nil))))))))))))))) (gx_perm (by first | exact .refl _ | (repeat (first | exact .refl _ | refine perm_take (by first | exact .head | exact .tail .head | exact .tail (.tail .head) | exact .tail (.tail (.tail .head)) | exact .tail (.tail (.tail (.tail .head))) | exact .tail (.tail (.tail (.tail (.tail .head))))) ?_ | refine perm_takeL (by repeat (first | exact .app | exact .here | apply TakeL.tail | apply TakeL.appr)) ?_ | refine perm_takeX (by repeat (first | exact .cons .head .nil | apply TakeL.tail | apply TakeL.appr)) ?_))) (hD6  True.intro))
              · rintro  _
                refine ga_branch (rs := [0]) (by kernel_rfl) rfl (.cons (ls' := [true, true, false, true, true, true, false, false, false]) rfl rfl ?_ .nil)
                refine gs_buildSlice (zs := []) ksl54 kze5 rfl rfl .nil .nil rfl rfl (fun b12 => ?_)
                refine gx_env (F := [(0, _), (1, _), (2, _), (4, _), (5, _), (6, _), (7, _), (8, _), (9, _), (10, _), (11, _), (12, _), (13, _), (15, _), (16, _), (17, _)]) (.cons rfl (.cons rfl (.cons rfl (.cons rfl (.cons rfl (.cons rfl (.cons rfl (.cons rfl (.cons rfl (.cons rfl (.cons rfl (.cons rfl (.cons rfl (.cons rfl (.cons rfl (.cons rfl .nil)))))))))))))))) (gx_perm (by first | exact .refl _ | (repeat (first | exact .refl _ | refine perm_take (by first | exact .head | exact .tail .head | exact .tail (.tail .head) | exact .tail (.tail (.tail .head)) | exact .tail (.tail (.tail (.tail .head))) | exact .tail (.tail (.tail (.tail (.tail .head))))) ?_ | refine perm_takeL (by repeat (first | exact .app | exact .here | apply TakeL.tail | apply TakeL.appr)) ?_ | refine perm_takeX (by repeat (first | exact .cons .head .nil | apply TakeL.tail | apply TakeL.appr)) ?_))) (hD3 b12 True.intro))
            · rintro b12 _
              refine ga_branch (rs := [2, 3]) (by kernel_rfl) rfl (.cons (ls' := [true, true, true, false, true, true, false, false, false]) rfl rfl ?_ (.cons (ls' := [true, true, false, true, true, true, false, false, false]) rfl rfl ?_ .nil))
              · skip
                refine gs_append ksl54 kze5 rfl rfl rfl rfl rfl rfl (own_lit (xs := []) rfl) (fun _ => by first | exact .here | exact .headR | exact .app | exact .tail .here | exact .tail .headR | exact .tail .app | exact .tail (.tail .here) | exact .tail (.tail .headR) | exact .tail (.tail .app) | exact .tail (.tail (.tail .here)) | exact .tail (.tail (.tail .headR)) | exact .tail (.tail (.tail .app)) | exact .tail (.tail (.tail (.tail .here))) | exact .tail (.tail (.tail (.tail .headR))) | exact .tail (.tail (.tail (.tail .app))) | exact .tail (.tail (.tail (.tail (.tail .here)))) | exact .tail (.tail (.tail (.tail (.tail .headR)))) | exact .tail (.tail (.tail (.tail (.tail .app)))) | exact .appr .here | exact .appr .headR | exact .appr .app | exact .tail (.appr .here) | exact .tail (.appr .headR) | exact .tail (.appr .app) | exact .tail (.tail (.appr .here)) | exact .tail (.tail (.appr .headR)) | exact .tail (.tail (.appr .app)) | exact .appr (.tail .here) | exact .appr (.tail .headR) | exact .appr (.tail .app) | exact .appr (.tail (.tail .here)) | exact .appr (.tail (.tail .headR)) | exact .appr (.tail (.tail .app)) | exact .appr (.appr .here) | exact .appr (.appr .headR) | exact .appr (.appr .app) | exact .tail (.appr (.appr .here)) | exact .tail (.appr (.appr .headR)) | exact .tail (.appr (.appr .app)) | exact .appr (.appr (.tail .here)) | exact .appr (.appr (.tail .headR)) | exact .appr (.appr (.tail .app)) | exact .appr (.appr (.appr .here)) | exact .appr (.appr (.appr .headR)) | exact .appr (.appr (.appr .app))) (brings_slice ksl54 (sees_all (by repeat (first | exact .head _ | refine .tail _ ?_ | refine List.mem_append_right _ ?_))) rfl (one_dig _)) (by omega) (fun ba14 c14 N14 hown14 => ?_)
                refine gx_env (F := [(0, _), (1, _), (2, _), (4, _), (5, _), (6, _), (7, _), (8, _), (9, _), (10, _), (11, _), (12, _), (13, _), (14, _), (16, _), (17, _)]) (.cons rfl (.cons rfl (.cons rfl (.cons rfl (.cons rfl (.cons rfl (.cons rfl (.cons rfl (.cons rfl (.cons rfl (.cons rfl (.cons rfl (.cons rfl (.cons rfl (.cons rfl (.cons rfl .nil)))))))))))))))) (gx_perm (by first | exact .refl _ | (repeat (first | exact .refl _ | refine perm_take (by first | exact .head | exact .tail .head | exact .tail (.tail .head) | exact .tail (.tail (.tail .head)) | exact .tail (.tail (.tail (.tail .head))) | exact .tail (.tail (.tail (.tail (.tail .head))))) ?_ | refine perm_takeL (by repeat (first | exact .app | exact .here | apply TakeL.tail | apply TakeL.appr)) ?_ | refine perm_takeX (by repeat (first | exact .cons .head .nil | apply TakeL.tail | apply TakeL.appr)) ?_))) (hD2 b12 ba14 c14 N14 (And.intro hown14 True.intro)))
              · skip
                refine gs_val (val_loadA kag30 rfl (sees_mem (by repeat (first | exact .head _ | refine .tail _ ?_ | refine List.mem_append_right _ ?_))) rfl rfl) rfl rfl rfl ?_
                refine gx_env (F := [(0, _), (1, _), (2, _), (4, _), (5, _), (6, _), (7, _), (8, _), (9, _), (10, _), (11, _), (12, _), (13, _), (15, _), (16, _), (17, _)]) (.cons rfl (.cons rfl (.cons rfl (.cons rfl (.cons rfl (.cons rfl (.cons rfl (.cons rfl (.cons rfl (.cons rfl (.cons rfl (.cons rfl (.cons rfl (.cons rfl (.cons rfl (.cons rfl .nil)))))))))))))))) (gx_perm (by first | exact .refl _ | (repeat (first | exact .refl _ | refine perm_take (by first | exact .head | exact .tail .head | exact .tail (.tail .head) | exact .tail (.tail (.tail .head)) | exact .tail (.tail (.tail (.tail .head))) | exact .tail (.tail (.tail (.tail (.tail .head))))) ?_ | refine perm_takeL (by repeat (first | exact .app | exact .here | apply TakeL.tail | apply TakeL.appr)) ?_ | refine perm_takeX (by repeat (first | exact .cons .head .nil | apply TakeL.tail | apply TakeL.appr)) ?_))) (hD3 b12 True.intro))
          · rintro b12 _
            refine ga_branch (rs := [2, 4]) (by kernel_rfl) rfl (.cons (ls' := [true, true, true, true, false, true, false, false, false]) rfl rfl ?_ (.cons (ls' := [true, true, false, true, true, true, false, false, false]) rfl rfl ?_ .nil))
            · skip
              refine gs_append ksl54 kze5 rfl rfl rfl rfl rfl rfl (own_lit (xs := []) rfl) (fun _ => by first | exact .here | exact .headR | exact .app | exact .tail .here | exact .tail .headR | exact .tail .app | exact .tail (.tail .here) | exact .tail (.tail .headR) | exact .tail (.tail .app) | exact .tail (.tail (.tail .here)) | exact .tail (.tail (.tail .headR)) | exact .tail (.tail (.tail .app)) | exact .tail (.tail (.tail (.tail .here))) | exact .tail (.tail (.tail (.tail .headR))) | exact .tail (.tail (.tail (.tail .app))) | exact .tail (.tail (.tail (.tail (.tail .here)))) | exact .tail (.tail (.tail (.tail (.tail .headR)))) | exact .tail (.tail (.tail (.tail (.tail .app)))) | exact .appr .here | exact .appr .headR | exact .appr .app | exact .tail (.appr .here) | exact .tail (.appr .headR) | exact .tail (.appr .app) | exact .tail (.tail (.appr .here)) | exact .tail (.tail (.appr .headR)) | exact .tail (.tail (.appr .app)) | exact .appr (.tail .here) | exact .appr (.tail .headR) | exact .appr (.tail .app) | exact .appr (.tail (.tail .here)) | exact .appr (.tail (.tail .headR)) | exact .appr (.tail (.tail .app)) | exact .appr (.appr .here) | exact .appr (.appr .headR) | exact .appr (.appr .app) | exact .tail (.appr (.appr .here)) | exact .tail (.appr (.appr .headR)) | exact .tail (.appr (.appr .app)) | exact .appr (.appr (.tail .here)) | exact .appr (.appr (.tail .headR)) | exact .appr (.appr (.tail .app)) | exact .appr (.appr (.appr .here)) | exact .appr (.appr (.appr .headR)) | exact .appr (.appr (.appr .app))) (brings_slice ksl54 (sees_all (by repeat (first | exact .head _ | refine .tail _ ?_ | refine List.mem_append_right _ ?_))) rfl (one_dig _)) (by omega) (fun ba14 c14 N14 hown14 => ?_)
              refine gx_env (F := [(0, _), (1, _), (2, _), (4, _), (5, _), (6, _), (7, _), (8, _), (9, _), (10, _), (11, _), (12, _), (13, _), (14, _), (15, _), (17, _)]) (.cons rfl (.cons rfl (.cons rfl (.cons rfl (.cons rfl (.cons rfl (.cons rfl (.cons rfl (.cons rfl (.cons rfl (.cons rfl (.cons rfl (.cons rfl (.cons rfl (.cons rfl (.cons rfl .nil)))))))))))))))) (gx_perm (by first | exact .refl _ | (repeat (first | exact .refl _ | refine perm_take (by first | exact .head | exact .tail .head | exact .tail (.tail .head) | exact .tail (.tail (.tail .head)) | exact .tail (.tail (.tail (.tail .head))) | exact .tail (.tail (.tail (.tail (.tail .head))))) ?_ | refine perm_takeL (by repeat (first | exact .app | exact .here | apply TakeL.tail | apply TakeL.appr)) ?_ | refine perm_takeX (by repeat (first | exact .cons .head .nil | apply TakeL.tail | apply TakeL.appr)) ?_))) (hD1 b12 ba14 c14 N14 (And.intro hown14 True.intro)))
            · skip
              refine gs_val (val_loadA kag30 rfl (sees_mem (by repeat (first | exact .head _ | refine .tail _ ?_ | refine List.mem_append_right _ ?_))) rfl rfl) rfl rfl rfl ?_
              refine gx_env (F := [(0, _), (1, _), (2, _), (4, _), (5, _), (6, _), (7, _), (8, _), (9, _), (10, _), (11, _), (12, _), (13, _), (15, _), (16, _), (17, _)]) (.cons rfl (.cons rfl (.cons rfl (.cons rfl (.cons rfl (.cons rfl (.cons rfl (.cons rfl (.cons rfl (.cons rfl (.cons rfl (.cons rfl (.cons rfl (.cons rfl (.cons rfl (.cons rfl .nil)))))))))))))))) (gx_perm (by first | exact .refl _ | (repeat (first | exact .refl _ | refine perm_take (by first | exact .head | exact .tail .head | exact .tail (.tail .head) | exact .tail (.tail (.tail .head)) | exact .tail (.tail (.tail (.tail .head))) | exact .tail (.tail (.tail (.tail (.tail .head))))) ?_ | refine perm_takeL (by repeat (first | exact .app | exact .here | apply TakeL.tail | apply TakeL.appr)) ?_ | refine perm_takeX (by repeat (first | exact .cons .head .nil | apply TakeL.tail | apply TakeL.appr)) ?_))) (hD3 b12 True.intro))
        · rintro b12 _
          refine ga_branch (rs := [2]) (by kernel_rfl) rfl (.cons (ls' := [true, true, true, true, true, true, false, false, false]) rfl rfl ?_ .nil)
          refine gs_append ksl54 kze5 rfl rfl rfl rfl rfl rfl (own_lit (xs := []) rfl) (fun _ => by first | exact .here | exact .headR | exact .app | exact .tail .here | exact .tail .headR | exact .tail .app | exact .tail (.tail .here) | exact .tail (.tail .headR) | exact .tail (.tail .app) | exact .tail (.tail (.tail .here)) | exact .tail (.tail (.tail .headR)) | exact .tail (.tail (.tail .app)) | exact .tail (.tail (.tail (.tail .here))) | exact .tail (.tail (.tail (.tail .headR))) | exact .tail (.tail (.tail (.tail .app))) | exact .tail (.tail (.tail (.tail (.tail .here)))) | exact .tail (.tail (.tail (.tail (.tail .headR)))) | exact .tail (.tail (.tail (.tail (.tail .app)))) | exact .appr .here | exact .appr .headR | exact .appr .app | exact .tail (.appr .here) | exact .tail (.appr .headR) | exact .tail (.appr .app) | exact .tail (.tail (.appr .here)) | exact .tail (.tail (.appr .headR)) | exact .tail (.tail (.appr .app)) | exact .appr (.tail .here) | exact .appr (.tail .headR) | exact .appr (.tail .app) | exact .appr (.tail (.tail .here)) | exact .appr (.tail (.tail .headR)) | exact .appr (.tail (.tail .app)) | exact .appr (.appr .here) | exact .appr (.appr .headR) | exact .appr (.appr .app) | exact .tail (.appr (.appr .here)) | exact .tail (.appr (.appr .headR)) | exact .tail (.appr (.appr .app)) | exact .appr (.appr (.tail .here)) | exact .appr (.appr (.tail .headR)) | exact .appr (.appr (.tail .app)) | exact .appr (.appr (.appr .here)) | exact .appr (.appr (.appr .headR)) | exact .appr (.appr (.appr .app))) (brings_slice ksl54 (sees_all (by repeat (first | exact .head _ | refine .tail _ ?_ | refine List.mem_append_right _ ?_))) rfl (one_dig _)) (by omega) (fun ba14 c14 N14 hown14 => ?_)
          refine gx_env (F := [(0, _), (1, _), (2, _), (4, _), (5, _), (6, _), (7, _), (8, _), (9, _), (10, _), (11, _), (12, _), (13, _), (14, _), (15, _), (16, _), (17, _)]) (.cons rfl (.cons rfl (.cons rfl (.cons rfl (.cons rfl (.cons rfl (.cons rfl (.cons rfl (.cons rfl (.cons rfl (.cons rfl (.cons rfl (.cons rfl (.cons rfl (.cons rfl (.cons rfl (.cons rfl .nil))))))))))))))))) (gx_perm (by first | exact .refl _ | (repeat (first | exact .refl _ | refine perm_take (by first | exact .head | exact .tail .head | exact .tail (.tail .head) | exact .tail (.tail (.tail .head)) | exact .tail (.tail (.tail (.tail .head))) | exact .tail (.tail (.tail (.tail (.tail .head))))) ?_ | refine perm_takeL (by repeat (first | exact .app | exact .here | apply TakeL.tail | apply TakeL.appr)) ?_ | refine perm_takeX (by repeat (first | exact .cons .head .nil | apply TakeL.tail | apply TakeL.appr)) ?_))) (hD0 b12 ba14 c14 N14 (And.intro hown14 True.intro)))
      · rintro b12 ba14 c14 N14 ⟨hown14, _⟩
        refine ga_branch (rs := [3]) (by kernel_rfl) rfl (.cons (ls' := [true, true, true, true, true, true, false, false, false]) rfl rfl ?_ .nil)
        refine gs_val (val_loadA kag30 rfl (sees_mem (by repeat (first | exact .head _ | refine .tail _ ?_ | refine List.mem_append_right _ ?_))) rfl rfl) rfl rfl rfl ?_
        refine gx_env (F := [(0, _), (1, _), (2, _), (4, _), (5, _), (6, _), (7, _), (8, _), (9, _), (10, _), (11, _), (12, _), (13, _), (14, _), (15, _), (16, _), (17, _)]) (.cons rfl (.cons rfl (.cons rfl (.cons rfl (.cons rfl (.cons rfl (.cons rfl (.cons rfl (.cons rfl (.cons rfl (.cons rfl (.cons rfl (.cons rfl (.cons rfl (.cons rfl (.cons rfl (.cons rfl .nil))))))))))))))))) (gx_perm (by first | exact .refl _ | (repeat (first | exact .refl _ | refine perm_take (by first | exact .head | exact .tail .head | exact .tail (.tail .head) | exact .tail (.tail (.tail .head)) | exact .tail (.tail (.tail (.tail .head))) | exact .tail (.tail (.tail (.tail (.tail .head))))) ?_ | refine perm_takeL (by repeat (first | exact .app | exact .here | apply TakeL.tail | apply TakeL.appr)) ?_ | refine perm_takeX (by repeat (first | exact .cons .head .nil | apply TakeL.tail | apply TakeL.appr)) ?_))) (hD0 b12 ba14 c14 N14 (And.intro hown14 True.intro)))
    · rintro b12 ba14 c14 N14 ⟨hown14, _⟩
      refine ga_branch (rs := [4]) (by kernel_rfl) rfl (.cons (ls' := [true, true, true, true, true, true, false, false, false]) rfl rfl ?_ .nil)
      refine gs_val (val_loadA kag30 rfl (sees_mem (by repeat (first | exact .head _ | refine .tail _ ?_ | refine List.mem_append_right _ ?_))) rfl rfl) rfl rfl rfl ?_
      refine gx_env (F := [(0, _), (1, _), (2, _), (4, _), (5, _), (6, _), (7, _), (8, _), (9, _), (10, _), (11, _), (12, _), (13, _), (14, _), (15, _), (16, _), (17, _)]) (.cons rfl (.cons rfl (.cons rfl (.cons rfl (.cons rfl (.cons rfl (.cons rfl (.cons rfl (.cons rfl (.cons rfl (.cons rfl (.cons rfl (.cons rfl (.cons rfl (.cons rfl (.cons rfl (.cons rfl .nil))))))))))))))))) (gx_perm (by first | exact .refl _ | (repeat (first | exact .refl _ | refine perm_take (by first | exact .head | exact .tail .head | exact .tail (.tail .head) | exact .tail (.tail (.tail .head)) | exact .tail (.tail (.tail (.tail .head))) | exact .tail (.tail (.tail (.tail (.tail .head))))) ?_ | refine perm_takeL (by repeat (first | exact .app | exact .here | apply TakeL.tail | apply TakeL.appr)) ?_ | refine perm_takeX (by repeat (first | exact .cons .head .nil | apply TakeL.tail | apply TakeL.appr)) ?_))) (hD0 b12 ba14 c14 N14 (And.intro hown14 True.intro)))
  · rintro b12 ba14 c14 N14 ⟨hown14, _⟩
    refine ga_branch (rs := [6]) (by kernel_rfl) rfl (.cons (ls' := [true, true, true, true, true, true, true, false, false]) rfl rfl ?_ .nil)
    refine gs_makes (enters kcall166 (.cons rfl (.cons rfl (.cons rfl .nil)))) (turn_spec k (checkW k l) ba n cap l hn (by omega)) rfl rfl rfl (row_of_sees (sees_row hpre)) (fun ⟨ba18, c18, N18⟩ h18 => ?_)
    refine ga_branch (rs := [7]) (by kernel_rfl) rfl (.cons (ls' := [true, true, true, true, true, true, true, true, false]) rfl rfl ?_ .nil)
    refine gs_append ksl54 kze5 rfl rfl rfl rfl rfl rfl (hown14) (fun _ => by first | exact .here | exact .headR | exact .app | exact .tail .here | exact .tail .headR | exact .tail .app | exact .tail (.tail .here) | exact .tail (.tail .headR) | exact .tail (.tail .app) | exact .tail (.tail (.tail .here)) | exact .tail (.tail (.tail .headR)) | exact .tail (.tail (.tail .app)) | exact .tail (.tail (.tail (.tail .here))) | exact .tail (.tail (.tail (.tail .headR))) | exact .tail (.tail (.tail (.tail .app))) | exact .tail (.tail (.tail (.tail (.tail .here)))) | exact .tail (.tail (.tail (.tail (.tail .headR)))) | exact .tail (.tail (.tail (.tail (.tail .app)))) | exact .appr .here | exact .appr .headR | exact .appr .app | exact .tail (.appr .here) | exact .tail (.appr .headR) | exact .tail (.appr .app) | exact .tail (.tail (.appr .here)) | exact .tail (.tail (.appr .headR)) | exact .tail (.tail (.appr .app)) | exact .appr (.tail .here) | exact .appr (.tail .headR) | exact .appr (.tail .app) | exact .appr (.tail (.tail .here)) | exact .appr (.tail (.tail .headR)) | exact .appr (.tail (.tail .app)) | exact .appr (.appr .here) | exact .appr (.appr .headR) | exact .appr (.appr .app) | exact .tail (.appr (.appr .here)) | exact .tail (.appr (.appr .headR)) | exact .tail (.appr (.appr .app)) | exact .appr (.appr (.tail .here)) | exact .appr (.appr (.tail .headR)) | exact .appr (.appr (.tail .app)) | exact .appr (.appr (.appr .here)) | exact .appr (.appr (.appr .headR)) | exact .appr (.appr (.appr .app))) (brings_slice ksl54 (h18.look (by repeat (first | exact .here | exact .headR | exact .app | refine .tail ?_ | refine .appr ?_))) (by rw [List.length_map, mix_len _ _ _ (by omega)]; omega) (one_map (fun _ => rfl) _)) (by omega) (fun ba19 c19 N19 hown19 => ?_)
    refine ga_take (i := 8) (ls' := [true, true, true, true, true, true, true, true, true]) rfl (by kernel_rfl) rfl (fun _ _ _ => val_assign rfl) rfl rfl rfl ?_
    refine ga_done (by kernel_rfl) ?_
    refine gk_seq ?_
    refine gc_ret ?_
    refine gk_ret rfl (resv_tmp rfl .nil) (M := N19) (by repeat (first | exact List.Sublist.refl _ | exact List.sublist_append_left _ _ | exact List.sublist_append_right _ _ | refine List.Sublist.cons _ ?_ | refine List.Sublist.trans ?_ (List.sublist_append_right _ _))) ?_
    refine ⟨(ba19, c19, N19, 5), ?_, ?_, rfl⟩
    · show Own _ 1 ba19 (sealL k l).length c19 ((sealL k l).map U8) N19
      rw [hsl, hse, List.map_append]
      exact hown19
    · show packed [Value.slice ba19 _ c19] = .slice ba19 (sealL k l).length c19
      rw [hsl]; rfl

/-- baize/veil.Seal -/
theorem seal_no (k : BitVec 64) (ba : Option Addr) (n cap : Nat) (h : 65536 < n) : Pure Try.prog 120 ([Dig k, .slice ba n cap]).toArray (fun _ => True) (.slice none 0 0) := by
  refine spec_walk (n := 18) Try.func120 rfl rfl rfl (fun w0 hpre => ?_)
  refine gc_seq ?_
  refine gc_region ?_
  refine gl_cons (gs_box rfl rfl rfl rfl (fun b2 => ?_))
  refine gl_cons (gs_val (val_assign rfl) rfl rfl rfl ?_)
  refine gl_nil ?_
  refine gk_seq ?_
  refine gc_seq ?_
  refine gc_seq ?_
  refine gc_region ?_
  refine gl_cons (gs_val (val_move rfl) rfl rfl rfl ?_)
  refine gl_cons (gs_val (val_lenSli ksl54 rfl) rfl rfl rfl ?_)
  refine gl_cons (gs_val (val_yes (val_gtr rfl rfl) (by omega)) rfl rfl rfl ?_)
  refine gl_nil ?_
  refine gk_seq ?_
  refine gc_true rfl ?_
  refine gc_seq ?_
  refine gc_region ?_
  refine gl_cons (gs_val (val_assign rfl) rfl rfl rfl ?_)
  refine gl_nil ?_
  refine gk_seq ?_
  refine gc_ret ?_
  refine gk_seq_ret ?_
  refine gk_ret rfl (resv_tmp rfl .nil) (List.nil_sublist _) ?_
  exact ⟨rfl, rfl⟩

/-- baize/veil.Open -/
theorem open_spec (k : BitVec 64) (ba : Option Addr) (n cap : Nat) (l : List UInt8) (hn : l.length = n) (hl : n ≤ 1048576) (hcap : n ≤ cap) : Makes Try.prog 122 ([Dig k, .slice ba n cap]).toArray (fun w => Row w [] ba (l.map U8)) (fun s : Option Addr × Nat × List Ent => Own 5 1 s.1 (openL k l).length s.2.1 ((openL k l).map U8) s.2.2) (fun s => .tuple #[.slice s.1 (openL k l).length s.2.1, I64 (openE k l)]) (fun s => s.2.2) := by
  have hdl : (l.drop 8).length = n - 8 := by rw [List.length_drop, hn]
  refine spec_walk (n := 30) Try.func122 rfl rfl rfl (fun w0 hpre => ?_)
  refine gc_seq ?_
  refine gc_region ?_
  refine gl_cons (gs_box rfl rfl rfl rfl (fun b2 => ?_))
  refine gl_cons (gs_val (val_assign rfl) rfl rfl rfl ?_)
  refine gl_cons (gs_val (val_assign rfl) rfl rfl rfl ?_)
  refine gl_nil ?_
  refine gk_seq ?_
  refine gc_seq ?_
  refine gc_block ?_
  refine gc_seq ?_
  refine gc_region ?_
  refine gl_cons (gs_val (val_move rfl) rfl rfl rfl ?_)
  refine gl_cons (gs_val (val_lenSli ksl54 rfl) rfl rfl rfl ?_)
  refine gl_cons (gs_val (val_lss rfl rfl) rfl rfl rfl ?_)
  refine gl_cons (gs_val (val_assign rfl) rfl rfl rfl ?_)
  refine gl_nil ?_
  refine gk_seq ?_
  refine gc_if rfl (fun h8 => ?_) (fun h8 => ?_)
  · have ho := openE_short k l (by omega)
    refine gc_seq ?_
    refine gc_region ?_
    refine gl_cons (gs_val (val_assign rfl) rfl rfl rfl ?_)
    refine gl_cons (gs_val (val_assign rfl) rfl rfl rfl ?_)
    refine gl_nil ?_
    refine gk_seq ?_
    refine gc_ret ?_
    refine gk_block_ret ?_
    refine gk_seq_ret ?_
    first | (refine gk_ret rfl (resv_tmp rfl (resv_tmp rfl .nil)) (List.nil_sublist _) ?_; (first | (refine ⟨(none, 0, []), ?_, ?_, rfl⟩; (show Own _ 1 none (openL k l).length 0 ((openL k l).map U8) []; rw [ho.2]; exact .nil); (rw [ho.1, ho.2]; rfl)) | (refine ⟨(ba23, c23, N23), ?_, ?_, rfl⟩; (show Own _ 1 ba23 (openL k l).length c23 ((openL k l).map U8) N23; rw [ho.2, box_len k l (by omega), hn]; exact h23); (rw [ho.1, ho.2, box_len k l (by omega), hn]; rfl)))) | (refine gk_ret rfl (resv_tmp rfl (resv_tmp rfl .nil)) (List.sublist_append_left _ _) ?_; (first | (refine ⟨(none, 0, []), ?_, ?_, rfl⟩; (show Own _ 1 none (openL k l).length 0 ((openL k l).map U8) []; rw [ho.2]; exact .nil); (rw [ho.1, ho.2]; rfl)) | (refine ⟨(ba23, c23, N23), ?_, ?_, rfl⟩; (show Own _ 1 ba23 (openL k l).length c23 ((openL k l).map U8) N23; rw [ho.2, box_len k l (by omega), hn]; exact h23); (rw [ho.1, ho.2, box_len k l (by omega), hn]; rfl))))
  · skip
    refine gc_seq ?_
    refine gc_region ?_
    refine gl_cons (gs_val (val_move rfl) rfl rfl rfl ?_)
    refine gl_cons (gs_val (val_lenSli ksl54 rfl) rfl rfl rfl ?_)
    refine gl_cons (gs_val (val_gtr rfl rfl) rfl rfl rfl ?_)
    refine gl_cons (gs_val (val_assign rfl) rfl rfl rfl ?_)
    refine gl_nil ?_
    refine gk_seq ?_
    refine gc_if rfl (fun h12 => ?_) (fun h12 => ?_)
    · have ho := openE_long k l (by omega)
      refine gc_seq ?_
      refine gc_region ?_
      refine gl_cons (gs_val (val_assign rfl) rfl rfl rfl ?_)
      refine gl_cons (gs_val (val_assign rfl) rfl rfl rfl ?_)
      refine gl_nil ?_
      refine gk_seq ?_
      refine gc_ret ?_
      refine gk_block_ret ?_
      refine gk_seq_ret ?_
      first | (refine gk_ret rfl (resv_tmp rfl (resv_tmp rfl .nil)) (List.nil_sublist _) ?_; (first | (refine ⟨(none, 0, []), ?_, ?_, rfl⟩; (show Own _ 1 none (openL k l).length 0 ((openL k l).map U8) []; rw [ho.2]; exact .nil); (rw [ho.1, ho.2]; rfl)) | (refine ⟨(ba23, c23, N23), ?_, ?_, rfl⟩; (show Own _ 1 ba23 (openL k l).length c23 ((openL k l).map U8) N23; rw [ho.2, box_len k l (by omega), hn]; exact h23); (rw [ho.1, ho.2, box_len k l (by omega), hn]; rfl)))) | (refine gk_ret rfl (resv_tmp rfl (resv_tmp rfl .nil)) (List.sublist_append_left _ _) ?_; (first | (refine ⟨(none, 0, []), ?_, ?_, rfl⟩; (show Own _ 1 none (openL k l).length 0 ((openL k l).map U8) []; rw [ho.2]; exact .nil); (rw [ho.1, ho.2]; rfl)) | (refine ⟨(ba23, c23, N23), ?_, ?_, rfl⟩; (show Own _ 1 ba23 (openL k l).length c23 ((openL k l).map U8) N23; rw [ho.2, box_len k l (by omega), hn]; exact h23); (rw [ho.1, ho.2, box_len k l (by omega), hn]; rfl))))
    · skip
      refine gc_skip ?_
      refine gk_block ?_
      refine gk_seq ?_
      refine gc_seq ?_
      refine gc_region ?_
      refine gl_cons (gs_alloc kze31 rfl rfl rfl (fun b6 => ?_))
      refine gl_nil ?_
      refine gk_seq ?_
      refine gc_seq ?_
      refine gc_region ?_
      refine gl_cons (gs_val (val_sliceArr kar31 rfl) rfl rfl rfl ?_)
      refine gl_cons (gs_val (val_move rfl) rfl rfl rfl ?_)
      refine gl_cons (gs_copy ksl54 rfl rfl (k := 8) (Nat.min_eq_right (by omega)) (((sees_row hpre).take 8).cast (ds := digL (boxW l)) (by rw [← List.map_take]; exact (dig_numL (by rw [List.length_take]; omega)).symm)) (rfl) (one_dig _) rfl rfl (by first | exact .head | exact .tail .head | exact .tail (.tail .head) | exact .tail (.tail (.tail .head)) | exact .tail (.tail (.tail (.tail .head))) | exact .tail (.tail (.tail (.tail (.tail .head))))) (by simp) (by first | ((with_reducible refine splice_all _ _ ?_); simp; done) | (simp only [splice, stL, digL, List.take_succ_cons, List.take_zero, List.drop_succ_cons, List.drop_zero, List.length_cons, List.length_nil, Nat.reduceAdd, Nat.reduceMul, Nat.zero_add, Nat.zero_mul, List.cons_append, List.nil_append]; exact rfl)) ?_)
      refine gl_nil ?_
      refine gk_seq ?_
      refine gc_seq ?_
      refine gc_draw (m := 4) kmixed (by kernel_rfl) ?_
      refine gq_val (val_loadA kag31 rfl (sees_mem (by repeat (first | exact .head _ | refine .tail _ ?_ | refine List.mem_append_right _ ?_))) rfl rfl) rfl rfl rfl ?_
      refine gq_val (val_loadA kag31 rfl (sees_mem (by repeat (first | exact .head _ | refine .tail _ ?_ | refine List.mem_append_right _ ?_))) rfl rfl) rfl rfl rfl ?_
      refine gq_val (val_move rfl) rfl rfl rfl ?_
      refine gq_val (val_sliceL (l := 8) ksl54 rfl rfl rfl (by omega)) rfl rfl rfl ?_
      refine gq_nil ?_
      refine gl_cons (gs_makes (enters kcall163 (.cons rfl (.cons rfl (.cons rfl .nil)))) (mix_spec_v k (boxW l) (sl ba cap 8 1) (n - 8) (cap - 8) (l.drop 8) hdl (by omega)) rfl rfl rfl (row_of_sees (((sees_row hpre).sl (cap := cap) (l := 8) (size := 1) (by rw [List.length_map, hn, Nat.mul_one]; exact hcap)).cast (by rw [Nat.mul_one, ← List.map_drop]))) (fun ⟨ba23, c23, N23⟩ h23 => ?_))
      refine gl_cons (gs_val (val_assign rfl) rfl rfl rfl ?_)
      refine gl_nil ?_
      refine gk_seq ?_
      refine gc_seq ?_
      refine gc_seq ?_
      refine gc_drawAll kmixed (by kernel_rfl) ?_
      refine gq_val (val_loadA kag31 rfl (sees_mem (by repeat (first | exact .head _ | refine .tail _ ?_ | refine List.mem_append_right _ ?_))) rfl rfl) rfl rfl rfl ?_
      refine gq_val (val_move rfl) rfl rfl rfl ?_
      refine gq_pure (enters kcall162 (.cons rfl (.cons rfl .nil))) (check_spec k ba23 (n - 8) c23 (boxP k l) (by rw [box_len k l (by omega), hn]) (by omega) h23.cap) rfl rfl rfl (row_of_sees (h23.look (by repeat (first | exact .here | exact .headR | exact .app | refine .tail ?_ | refine .appr ?_)))) ?_
      refine gq_val (val_loadA kag31 rfl (sees_mem (by repeat (first | exact .head _ | refine .tail _ ?_ | refine List.mem_append_right _ ?_))) rfl rfl) rfl rfl rfl ?_
      refine gq_val (val_neqDig kdig31 rfl rfl rfl rfl) rfl rfl rfl ?_
      refine gq_nil ?_
      refine gl_nil ?_
      refine gk_seq ?_
      refine gc_if rfl (fun h28 => ?_) (fun h28 => ?_)
      · have ho := openE_bad k l (by omega) (by omega) h28
        refine gc_seq ?_
        refine gc_region ?_
        refine gl_cons (gs_val (val_assign rfl) rfl rfl rfl ?_)
        refine gl_cons (gs_val (val_assign rfl) rfl rfl rfl ?_)
        refine gl_nil ?_
        refine gk_seq ?_
        refine gc_ret ?_
        refine gk_seq_ret ?_
        first | (refine gk_ret rfl (resv_tmp rfl (resv_tmp rfl .nil)) (List.nil_sublist _) ?_; (first | (refine ⟨(none, 0, []), ?_, ?_, rfl⟩; (show Own _ 1 none (openL k l).length 0 ((openL k l).map U8) []; rw [ho.2]; exact .nil); (rw [ho.1, ho.2]; rfl)) | (refine ⟨(ba23, c23, N23), ?_, ?_, rfl⟩; (show Own _ 1 ba23 (openL k l).length c23 ((openL k l).map U8) N23; rw [ho.2, box_len k l (by omega), hn]; exact h23); (rw [ho.1, ho.2, box_len k l (by omega), hn]; rfl)))) | (refine gk_ret rfl (resv_tmp rfl (resv_tmp rfl .nil)) (List.sublist_append_left _ _) ?_; (first | (refine ⟨(none, 0, []), ?_, ?_, rfl⟩; (show Own _ 1 none (openL k l).length 0 ((openL k l).map U8) []; rw [ho.2]; exact .nil); (rw [ho.1, ho.2]; rfl)) | (refine ⟨(ba23, c23, N23), ?_, ?_, rfl⟩; (show Own _ 1 ba23 (openL k l).length c23 ((openL k l).map U8) N23; rw [ho.2, box_len k l (by omega), hn]; exact h23); (rw [ho.1, ho.2, box_len k l (by omega), hn]; rfl))))
      · have ho := openE_good k l (by omega) (by omega) (Decidable.not_not.1 h28)
        refine gc_skip ?_
        refine gk_seq ?_
        refine gc_seq ?_
        refine gc_region ?_
        refine gl_cons (gs_val (val_move rfl) rfl rfl rfl ?_)
        refine gl_cons (gs_val (val_assign rfl) rfl rfl rfl ?_)
        refine gl_cons (gs_val (val_assign rfl) rfl rfl rfl ?_)
        refine gl_nil ?_
        refine gk_seq ?_
        refine gc_ret ?_
        first | (refine gk_ret rfl (resv_tmp rfl (resv_tmp rfl .nil)) (List.nil_sublist _) ?_; (first | (refine ⟨(none, 0, []), ?_, ?_, rfl⟩; (show Own _ 1 none (openL k l).length 0 ((openL k l).map U8) []; rw [ho.2]; exact .nil); (rw [ho.1, ho.2]; rfl)) | (refine ⟨(ba23, c23, N23), ?_, ?_, rfl⟩; (show Own _ 1 ba23 (openL k l).length c23 ((openL k l).map U8) N23; rw [ho.2, box_len k l (by omega), hn]; exact h23); (rw [ho.1, ho.2, box_len k l (by omega), hn]; rfl)))) | (refine gk_ret rfl (resv_tmp rfl (resv_tmp rfl .nil)) (List.sublist_append_left _ _) ?_; (first | (refine ⟨(none, 0, []), ?_, ?_, rfl⟩; (show Own _ 1 none (openL k l).length 0 ((openL k l).map U8) []; rw [ho.2]; exact .nil); (rw [ho.1, ho.2]; rfl)) | (refine ⟨(ba23, c23, N23), ?_, ?_, rfl⟩; (show Own _ 1 ba23 (openL k l).length c23 ((openL k l).map U8) N23; rw [ho.2, box_len k l (by omega), hn]; exact h23); (rw [ho.1, ho.2, box_len k l (by omega), hn]; rfl))))

/-- baize/baizeref08.Open -/
theorem ropen_spec (k : BitVec 64) (ba : Option Addr) (n cap : Nat) (l : List UInt8) (hn : l.length = n) (hl : n ≤ 1048576) (hcap : n ≤ cap) : Makes Try.prog 171 ([Dig k, .slice ba n cap]).toArray (fun w => Row w [] ba (l.map U8)) (fun s : Option Addr × Nat × List Ent => Own 5 1 s.1 (openL k l).length s.2.1 ((openL k l).map U8) s.2.2) (fun s => .tuple #[.slice s.1 (openL k l).length s.2.1, I64 (openE k l)]) (fun s => s.2.2) := by
  have hdl : (l.drop 8).length = n - 8 := by rw [List.length_drop, hn]
  refine spec_walk (n := 37) Try.func171 rfl rfl rfl (fun w0 hpre => ?_)
  refine gc_seq ?_
  refine gc_region ?_
  refine gl_cons (gs_box rfl rfl rfl rfl (fun b2 => ?_))
  refine gl_cons (gs_val (val_assign rfl) rfl rfl rfl ?_)
  refine gl_cons (gs_val (val_assign rfl) rfl rfl rfl ?_)
  refine gl_nil ?_
  refine gk_seq ?_
  refine gc_seq ?_
  refine gc_seq ?_
  refine gc_region ?_
  refine gl_cons (gs_val (val_move rfl) rfl rfl rfl ?_)
  refine gl_cons (gs_val (val_lenSli ksl54 rfl) rfl rfl rfl ?_)
  refine gl_cons (gs_val (val_lss rfl rfl) rfl rfl rfl ?_)
  refine gl_nil ?_
  refine gk_seq ?_
  refine gc_if rfl (fun h8 => ?_) (fun h8 => ?_)
  · have ho := openE_short k l (by omega)
    refine gc_seq ?_
    refine gc_region ?_
    refine gl_cons (gs_val (val_assign rfl) rfl rfl rfl ?_)
    refine gl_cons (gs_val (val_assign rfl) rfl rfl rfl ?_)
    refine gl_nil ?_
    refine gk_seq ?_
    refine gc_ret ?_
    refine gk_seq_ret ?_
    first | (refine gk_ret rfl (resv_tmp rfl (resv_tmp rfl .nil)) (List.nil_sublist _) ?_; (first | (refine ⟨(none, 0, []), ?_, ?_, rfl⟩; (show Own _ 1 none (openL k l).length 0 ((openL k l).map U8) []; rw [ho.2]; exact .nil); (rw [ho.1, ho.2]; rfl)) | (refine ⟨(ba30, c30, N30), ?_, ?_, rfl⟩; (show Own _ 1 ba30 (openL k l).length c30 ((openL k l).map U8) N30; rw [ho.2, box_len k l (by omega), hn]; exact h30); (rw [ho.1, ho.2, box_len k l (by omega), hn]; rfl)))) | (refine gk_ret rfl (resv_tmp rfl (resv_tmp rfl .nil)) (List.sublist_append_left _ _) ?_; (first | (refine ⟨(none, 0, []), ?_, ?_, rfl⟩; (show Own _ 1 none (openL k l).length 0 ((openL k l).map U8) []; rw [ho.2]; exact .nil); (rw [ho.1, ho.2]; rfl)) | (refine ⟨(ba30, c30, N30), ?_, ?_, rfl⟩; (show Own _ 1 ba30 (openL k l).length c30 ((openL k l).map U8) N30; rw [ho.2, box_len k l (by omega), hn]; exact h30); (rw [ho.1, ho.2, box_len k l (by omega), hn]; rfl))))
  · skip
    refine gc_skip ?_
    refine gk_seq ?_
    refine gc_seq ?_
    refine gc_seq ?_
    refine gc_region ?_
    refine gl_cons (gs_val (val_move rfl) rfl rfl rfl ?_)
    refine gl_cons (gs_val (val_lenSli ksl54 rfl) rfl rfl rfl ?_)
    refine gl_cons (gs_val (val_gtr rfl rfl) rfl rfl rfl ?_)
    refine gl_nil ?_
    refine gk_seq ?_
    refine gc_if rfl (fun h12 => ?_) (fun h12 => ?_)
    · have ho := openE_long k l (by omega)
      refine gc_seq ?_
      refine gc_region ?_
      refine gl_cons (gs_val (val_assign rfl) rfl rfl rfl ?_)
      refine gl_cons (gs_val (val_assign rfl) rfl rfl rfl ?_)
      refine gl_nil ?_
      refine gk_seq ?_
      refine gc_ret ?_
      refine gk_seq_ret ?_
      first | (refine gk_ret rfl (resv_tmp rfl (resv_tmp rfl .nil)) (List.nil_sublist _) ?_; (first | (refine ⟨(none, 0, []), ?_, ?_, rfl⟩; (show Own _ 1 none (openL k l).length 0 ((openL k l).map U8) []; rw [ho.2]; exact .nil); (rw [ho.1, ho.2]; rfl)) | (refine ⟨(ba30, c30, N30), ?_, ?_, rfl⟩; (show Own _ 1 ba30 (openL k l).length c30 ((openL k l).map U8) N30; rw [ho.2, box_len k l (by omega), hn]; exact h30); (rw [ho.1, ho.2, box_len k l (by omega), hn]; rfl)))) | (refine gk_ret rfl (resv_tmp rfl (resv_tmp rfl .nil)) (List.sublist_append_left _ _) ?_; (first | (refine ⟨(none, 0, []), ?_, ?_, rfl⟩; (show Own _ 1 none (openL k l).length 0 ((openL k l).map U8) []; rw [ho.2]; exact .nil); (rw [ho.1, ho.2]; rfl)) | (refine ⟨(ba30, c30, N30), ?_, ?_, rfl⟩; (show Own _ 1 ba30 (openL k l).length c30 ((openL k l).map U8) N30; rw [ho.2, box_len k l (by omega), hn]; exact h30); (rw [ho.1, ho.2, box_len k l (by omega), hn]; rfl))))
    · have hbc := box_cells l (by omega)
      refine gc_skip ?_
      refine gk_seq ?_
      refine gc_seq ?_
      refine gc_region ?_
      refine gl_cons (gs_val (val_buildZ kze30 rfl kar30) rfl rfl rfl ?_)
      refine gl_cons (gs_alloc kze30 rfl rfl rfl (fun b6 => ?_))
      refine gl_cons (gs_store ksz30 rfl rfl rfl rfl rfl rfl (by first | exact .head | exact .tail .head | exact .tail (.tail .head) | exact .tail (.tail (.tail .head)) | exact .tail (.tail (.tail (.tail .head))) | exact .tail (.tail (.tail (.tail (.tail .head))))) (by simp) (by first | ((with_reducible refine splice_all _ _ ?_); simp; done) | (simp only [splice, stL, digL, List.take_succ_cons, List.take_zero, List.drop_succ_cons, List.drop_zero, List.length_cons, List.length_nil, Nat.reduceAdd, Nat.reduceMul, Nat.zero_add, Nat.zero_mul, List.cons_append, List.nil_append]; exact rfl)) ?_)
      refine gl_nil ?_
      refine gk_seq ?_
      refine gc_seq ?_
      refine gc_seq ?_
      refine gc_region ?_
      refine gl_cons (gs_val (val_assign rfl) rfl rfl rfl ?_)
      refine gl_nil ?_
      refine gk_seq ?_
      refine gc_block ?_
      refine gc_rounds 8 ?_
      refine gc_seq ?_
      refine gc_seq ?_
      refine gc_region ?_
      refine gl_cons (gs_val (val_move rfl) rfl rfl rfl ?_)
      refine gl_cons (gs_val (val_lss rfl rfl) rfl rfl rfl ?_)
      refine gl_nil ?_
      refine gk_seq ?_
      refine gc_true rfl ?_
      refine gc_skip ?_
      refine gk_seq ?_
      refine gc_seq ?_
      refine gc_block ?_
      refine gc_region ?_
      refine gl_cons (gs_val (val_move rfl) rfl rfl rfl ?_)
      refine gl_cons (gs_val (val_move rfl) rfl rfl rfl ?_)
      refine gl_cons (gs_val (val_move rfl) rfl rfl rfl ?_)
      refine gl_cons (gs_val (val_indexSli (m := 0) ksl54 rfl rfl (by omega) (by omega) (sees_row hpre) (by (try simp only [List.length_map, Nat.mul_one, dig_len, inc_len, List.length_append, List.length_cons, List.length_nil, List.length_replicate]); omega)) rfl rfl rfl ?_)
      refine gl_cons (gs_val (val_load1 kag5 rfl ((sees_row hpre).elem (m := 0) (by omega)) rfl) rfl rfl rfl ?_)
      refine gl_cons (gs_val (val_indexArr (m := 0) kar30 rfl rfl rfl (by decide)) rfl rfl rfl ?_)
      refine gl_cons (gs_store ksz5 rfl rfl rfl rfl rfl rfl (by first | exact .head | exact .tail .head | exact .tail (.tail .head) | exact .tail (.tail (.tail .head)) | exact .tail (.tail (.tail (.tail .head))) | exact .tail (.tail (.tail (.tail (.tail .head))))) (by simp) (by first | ((with_reducible refine splice_all _ _ ?_); simp; done) | (simp only [splice, stL, digL, List.take_succ_cons, List.take_zero, List.drop_succ_cons, List.drop_zero, List.length_cons, List.length_nil, Nat.reduceAdd, Nat.reduceMul, Nat.zero_add, Nat.zero_mul, List.cons_append, List.nil_append]; exact rfl)) ?_)
      refine gl_nil ?_
      refine gk_block ?_
      refine gk_seq ?_
      refine gc_region ?_
      refine gl_cons (gs_val (val_move rfl) rfl rfl rfl ?_)
      refine gl_cons (gs_val (val_addC (r := 1) rfl rfl (by decide)) rfl rfl rfl ?_)
      refine gl_cons (gs_val (val_assign rfl) rfl rfl rfl ?_)
      refine gl_nil ?_
      refine gk_rounds ?_
      refine gc_seq ?_
      refine gc_seq ?_
      refine gc_region ?_
      refine gl_cons (gs_val (val_move rfl) rfl rfl rfl ?_)
      refine gl_cons (gs_val (val_lss rfl rfl) rfl rfl rfl ?_)
      refine gl_nil ?_
      refine gk_seq ?_
      refine gc_true rfl ?_
      refine gc_skip ?_
      refine gk_seq ?_
      refine gc_seq ?_
      refine gc_block ?_
      refine gc_region ?_
      refine gl_cons (gs_val (val_move rfl) rfl rfl rfl ?_)
      refine gl_cons (gs_val (val_move rfl) rfl rfl rfl ?_)
      refine gl_cons (gs_val (val_move rfl) rfl rfl rfl ?_)
      refine gl_cons (gs_val (val_indexSli (m := 1) ksl54 rfl rfl (by omega) (by omega) (sees_row hpre) (by (try simp only [List.length_map, Nat.mul_one, dig_len, inc_len, List.length_append, List.length_cons, List.length_nil, List.length_replicate]); omega)) rfl rfl rfl ?_)
      refine gl_cons (gs_val (val_load1 kag5 rfl ((sees_row hpre).elem (m := 1) (by omega)) rfl) rfl rfl rfl ?_)
      refine gl_cons (gs_val (val_indexArr (m := 1) kar30 rfl rfl rfl (by decide)) rfl rfl rfl ?_)
      refine gl_cons (gs_store ksz5 rfl rfl rfl rfl rfl rfl (by first | exact .head | exact .tail .head | exact .tail (.tail .head) | exact .tail (.tail (.tail .head)) | exact .tail (.tail (.tail (.tail .head))) | exact .tail (.tail (.tail (.tail (.tail .head))))) (by simp) (by first | ((with_reducible refine splice_all _ _ ?_); simp; done) | (simp only [splice, stL, digL, List.take_succ_cons, List.take_zero, List.drop_succ_cons, List.drop_zero, List.length_cons, List.length_nil, Nat.reduceAdd, Nat.reduceMul, Nat.zero_add, Nat.zero_mul, List.cons_append, List.nil_append]; exact rfl)) ?_)
      refine gl_nil ?_
      refine gk_block ?_
      refine gk_seq ?_
      refine gc_region ?_
      refine gl_cons (gs_val (val_move rfl) rfl rfl rfl ?_)
      refine gl_cons (gs_val (val_addC (r := 2) rfl rfl (by decide)) rfl rfl rfl ?_)
      refine gl_cons (gs_val (val_assign rfl) rfl rfl rfl ?_)
      refine gl_nil ?_
      refine gk_rounds ?_
      refine gc_seq ?_
      refine gc_seq ?_
      refine gc_region ?_
      refine gl_cons (gs_val (val_move rfl) rfl rfl rfl ?_)
      refine gl_cons (gs_val (val_lss rfl rfl) rfl rfl rfl ?_)
      refine gl_nil ?_
      refine gk_seq ?_
      refine gc_true rfl ?_
      refine gc_skip ?_
      refine gk_seq ?_
      refine gc_seq ?_
      refine gc_block ?_
      refine gc_region ?_
      refine gl_cons (gs_val (val_move rfl) rfl rfl rfl ?_)
      refine gl_cons (gs_val (val_move rfl) rfl rfl rfl ?_)
      refine gl_cons (gs_val (val_move rfl) rfl rfl rfl ?_)
      refine gl_cons (gs_val (val_indexSli (m := 2) ksl54 rfl rfl (by omega) (by omega) (sees_row hpre) (by (try simp only [List.length_map, Nat.mul_one, dig_len, inc_len, List.length_append, List.length_cons, List.length_nil, List.length_replicate]); omega)) rfl rfl rfl ?_)
      refine gl_cons (gs_val (val_load1 kag5 rfl ((sees_row hpre).elem (m := 2) (by omega)) rfl) rfl rfl rfl ?_)
      refine gl_cons (gs_val (val_indexArr (m := 2) kar30 rfl rfl rfl (by decide)) rfl rfl rfl ?_)
      refine gl_cons (gs_store ksz5 rfl rfl rfl rfl rfl rfl (by first | exact .head | exact .tail .head | exact .tail (.tail .head) | exact .tail (.tail (.tail .head)) | exact .tail (.tail (.tail (.tail .head))) | exact .tail (.tail (.tail (.tail (.tail .head))))) (by simp) (by first | ((with_reducible refine splice_all _ _ ?_); simp; done) | (simp only [splice, stL, digL, List.take_succ_cons, List.take_zero, List.drop_succ_cons, List.drop_zero, List.length_cons, List.length_nil, Nat.reduceAdd, Nat.reduceMul, Nat.zero_add, Nat.zero_mul, List.cons_append, List.nil_append]; exact rfl)) ?_)
      refine gl_nil ?_
      refine gk_block ?_
      refine gk_seq ?_
      refine gc_region ?_
      refine gl_cons (gs_val (val_move rfl) rfl rfl rfl ?_)
      refine gl_cons (gs_val (val_addC (r := 3) rfl rfl (by decide)) rfl rfl rfl ?_)
      refine gl_cons (gs_val (val_assign rfl) rfl rfl rfl ?_)
      refine gl_nil ?_
      refine gk_rounds ?_
      refine gc_seq ?_
      refine gc_seq ?_
      refine gc_region ?_
      refine gl_cons (gs_val (val_move rfl) rfl rfl rfl ?_)
      refine gl_cons (gs_val (val_lss rfl rfl) rfl rfl rfl ?_)
      refine gl_nil ?_
      refine gk_seq ?_
      refine gc_true rfl ?_
      refine gc_skip ?_
      refine gk_seq ?_
      refine gc_seq ?_
      refine gc_block ?_
      refine gc_region ?_
      refine gl_cons (gs_val (val_move rfl) rfl rfl rfl ?_)
      refine gl_cons (gs_val (val_move rfl) rfl rfl rfl ?_)
      refine gl_cons (gs_val (val_move rfl) rfl rfl rfl ?_)
      refine gl_cons (gs_val (val_indexSli (m := 3) ksl54 rfl rfl (by omega) (by omega) (sees_row hpre) (by (try simp only [List.length_map, Nat.mul_one, dig_len, inc_len, List.length_append, List.length_cons, List.length_nil, List.length_replicate]); omega)) rfl rfl rfl ?_)
      refine gl_cons (gs_val (val_load1 kag5 rfl ((sees_row hpre).elem (m := 3) (by omega)) rfl) rfl rfl rfl ?_)
      refine gl_cons (gs_val (val_indexArr (m := 3) kar30 rfl rfl rfl (by decide)) rfl rfl rfl ?_)
      refine gl_cons (gs_store ksz5 rfl rfl rfl rfl rfl rfl (by first | exact .head | exact .tail .head | exact .tail (.tail .head) | exact .tail (.tail (.tail .head)) | exact .tail (.tail (.tail (.tail .head))) | exact .tail (.tail (.tail (.tail (.tail .head))))) (by simp) (by first | ((with_reducible refine splice_all _ _ ?_); simp; done) | (simp only [splice, stL, digL, List.take_succ_cons, List.take_zero, List.drop_succ_cons, List.drop_zero, List.length_cons, List.length_nil, Nat.reduceAdd, Nat.reduceMul, Nat.zero_add, Nat.zero_mul, List.cons_append, List.nil_append]; exact rfl)) ?_)
      refine gl_nil ?_
      refine gk_block ?_
      refine gk_seq ?_
      refine gc_region ?_
      refine gl_cons (gs_val (val_move rfl) rfl rfl rfl ?_)
      refine gl_cons (gs_val (val_addC (r := 4) rfl rfl (by decide)) rfl rfl rfl ?_)
      refine gl_cons (gs_val (val_assign rfl) rfl rfl rfl ?_)
      refine gl_nil ?_
      refine gk_rounds ?_
      refine gc_seq ?_
      refine gc_seq ?_
      refine gc_region ?_
      refine gl_cons (gs_val (val_move rfl) rfl rfl rfl ?_)
      refine gl_cons (gs_val (val_lss rfl rfl) rfl rfl rfl ?_)
      refine gl_nil ?_
      refine gk_seq ?_
      refine gc_true rfl ?_
      refine gc_skip ?_
      refine gk_seq ?_
      refine gc_seq ?_
      refine gc_block ?_
      refine gc_region ?_
      refine gl_cons (gs_val (val_move rfl) rfl rfl rfl ?_)
      refine gl_cons (gs_val (val_move rfl) rfl rfl rfl ?_)
      refine gl_cons (gs_val (val_move rfl) rfl rfl rfl ?_)
      refine gl_cons (gs_val (val_indexSli (m := 4) ksl54 rfl rfl (by omega) (by omega) (sees_row hpre) (by (try simp only [List.length_map, Nat.mul_one, dig_len, inc_len, List.length_append, List.length_cons, List.length_nil, List.length_replicate]); omega)) rfl rfl rfl ?_)
      refine gl_cons (gs_val (val_load1 kag5 rfl ((sees_row hpre).elem (m := 4) (by omega)) rfl) rfl rfl rfl ?_)
      refine gl_cons (gs_val (val_indexArr (m := 4) kar30 rfl rfl rfl (by decide)) rfl rfl rfl ?_)
      refine gl_cons (gs_store ksz5 rfl rfl rfl rfl rfl rfl (by first | exact .head | exact .tail .head | exact .tail (.tail .head) | exact .tail (.tail (.tail .head)) | exact .tail (.tail (.tail (.tail .head))) | exact .tail (.tail (.tail (.tail (.tail .head))))) (by simp) (by first | ((with_reducible refine splice_all _ _ ?_); simp; done) | (simp only [splice, stL, digL, List.take_succ_cons, List.take_zero, List.drop_succ_cons, List.drop_zero, List.length_cons, List.length_nil, Nat.reduceAdd, Nat.reduceMul, Nat.zero_add, Nat.zero_mul, List.cons_append, List.nil_append]; exact rfl)) ?_)
      refine gl_nil ?_
      refine gk_block ?_
      refine gk_seq ?_
      refine gc_region ?_
      refine gl_cons (gs_val (val_move rfl) rfl rfl rfl ?_)
      refine gl_cons (gs_val (val_addC (r := 5) rfl rfl (by decide)) rfl rfl rfl ?_)
      refine gl_cons (gs_val (val_assign rfl) rfl rfl rfl ?_)
      refine gl_nil ?_
      refine gk_rounds ?_
      refine gc_seq ?_
      refine gc_seq ?_
      refine gc_region ?_
      refine gl_cons (gs_val (val_move rfl) rfl rfl rfl ?_)
      refine gl_cons (gs_val (val_lss rfl rfl) rfl rfl rfl ?_)
      refine gl_nil ?_
      refine gk_seq ?_
      refine gc_true rfl ?_
      refine gc_skip ?_
      refine gk_seq ?_
      refine gc_seq ?_
      refine gc_block ?_
      refine gc_region ?_
      refine gl_cons (gs_val (val_move rfl) rfl rfl rfl ?_)
      refine gl_cons (gs_val (val_move rfl) rfl rfl rfl ?_)
      refine gl_cons (gs_val (val_move rfl) rfl rfl rfl ?_)
      refine gl_cons (gs_val (val_indexSli (m := 5) ksl54 rfl rfl (by omega) (by omega) (sees_row hpre) (by (try simp only [List.length_map, Nat.mul_one, dig_len, inc_len, List.length_append, List.length_cons, List.length_nil, List.length_replicate]); omega)) rfl rfl rfl ?_)
      refine gl_cons (gs_val (val_load1 kag5 rfl ((sees_row hpre).elem (m := 5) (by omega)) rfl) rfl rfl rfl ?_)
      refine gl_cons (gs_val (val_indexArr (m := 5) kar30 rfl rfl rfl (by decide)) rfl rfl rfl ?_)
      refine gl_cons (gs_store ksz5 rfl rfl rfl rfl rfl rfl (by first | exact .head | exact .tail .head | exact .tail (.tail .head) | exact .tail (.tail (.tail .head)) | exact .tail (.tail (.tail (.tail .head))) | exact .tail (.tail (.tail (.tail (.tail .head))))) (by simp) (by first | ((with_reducible refine splice_all _ _ ?_); simp; done) | (simp only [splice, stL, digL, List.take_succ_cons, List.take_zero, List.drop_succ_cons, List.drop_zero, List.length_cons, List.length_nil, Nat.reduceAdd, Nat.reduceMul, Nat.zero_add, Nat.zero_mul, List.cons_append, List.nil_append]; exact rfl)) ?_)
      refine gl_nil ?_
      refine gk_block ?_
      refine gk_seq ?_
      refine gc_region ?_
      refine gl_cons (gs_val (val_move rfl) rfl rfl rfl ?_)
      refine gl_cons (gs_val (val_addC (r := 6) rfl rfl (by decide)) rfl rfl rfl ?_)
      refine gl_cons (gs_val (val_assign rfl) rfl rfl rfl ?_)
      refine gl_nil ?_
      refine gk_rounds ?_
      refine gc_seq ?_
      refine gc_seq ?_
      refine gc_region ?_
      refine gl_cons (gs_val (val_move rfl) rfl rfl rfl ?_)
      refine gl_cons (gs_val (val_lss rfl rfl) rfl rfl rfl ?_)
      refine gl_nil ?_
      refine gk_seq ?_
      refine gc_true rfl ?_
      refine gc_skip ?_
      refine gk_seq ?_
      refine gc_seq ?_
      refine gc_block ?_
      refine gc_region ?_
      refine gl_cons (gs_val (val_move rfl) rfl rfl rfl ?_)
      refine gl_cons (gs_val (val_move rfl) rfl rfl rfl ?_)
      refine gl_cons (gs_val (val_move rfl) rfl rfl rfl ?_)
      refine gl_cons (gs_val (val_indexSli (m := 6) ksl54 rfl rfl (by omega) (by omega) (sees_row hpre) (by (try simp only [List.length_map, Nat.mul_one, dig_len, inc_len, List.length_append, List.length_cons, List.length_nil, List.length_replicate]); omega)) rfl rfl rfl ?_)
      refine gl_cons (gs_val (val_load1 kag5 rfl ((sees_row hpre).elem (m := 6) (by omega)) rfl) rfl rfl rfl ?_)
      refine gl_cons (gs_val (val_indexArr (m := 6) kar30 rfl rfl rfl (by decide)) rfl rfl rfl ?_)
      refine gl_cons (gs_store ksz5 rfl rfl rfl rfl rfl rfl (by first | exact .head | exact .tail .head | exact .tail (.tail .head) | exact .tail (.tail (.tail .head)) | exact .tail (.tail (.tail (.tail .head))) | exact .tail (.tail (.tail (.tail (.tail .head))))) (by simp) (by first | ((with_reducible refine splice_all _ _ ?_); simp; done) | (simp only [splice, stL, digL, List.take_succ_cons, List.take_zero, List.drop_succ_cons, List.drop_zero, List.length_cons, List.length_nil, Nat.reduceAdd, Nat.reduceMul, Nat.zero_add, Nat.zero_mul, List.cons_append, List.nil_append]; exact rfl)) ?_)
      refine gl_nil ?_
      refine gk_block ?_
      refine gk_seq ?_
      refine gc_region ?_
      refine gl_cons (gs_val (val_move rfl) rfl rfl rfl ?_)
      refine gl_cons (gs_val (val_addC (r := 7) rfl rfl (by decide)) rfl rfl rfl ?_)
      refine gl_cons (gs_val (val_assign rfl) rfl rfl rfl ?_)
      refine gl_nil ?_
      refine gk_rounds ?_
      refine gc_seq ?_
      refine gc_seq ?_
      refine gc_region ?_
      refine gl_cons (gs_val (val_move rfl) rfl rfl rfl ?_)
      refine gl_cons (gs_val (val_lss rfl rfl) rfl rfl rfl ?_)
      refine gl_nil ?_
      refine gk_seq ?_
      refine gc_true rfl ?_
      refine gc_skip ?_
      refine gk_seq ?_
      refine gc_seq ?_
      refine gc_block ?_
      refine gc_region ?_
      refine gl_cons (gs_val (val_move rfl) rfl rfl rfl ?_)
      refine gl_cons (gs_val (val_move rfl) rfl rfl rfl ?_)
      refine gl_cons (gs_val (val_move rfl) rfl rfl rfl ?_)
      refine gl_cons (gs_val (val_indexSli (m := 7) ksl54 rfl rfl (by omega) (by omega) (sees_row hpre) (by (try simp only [List.length_map, Nat.mul_one, dig_len, inc_len, List.length_append, List.length_cons, List.length_nil, List.length_replicate]); omega)) rfl rfl rfl ?_)
      refine gl_cons (gs_val (val_load1 kag5 rfl ((sees_row hpre).elem (m := 7) (by omega)) rfl) rfl rfl rfl ?_)
      refine gl_cons (gs_val (val_indexArr (m := 7) kar30 rfl rfl rfl (by decide)) rfl rfl rfl ?_)
      refine gl_cons (gs_store ksz5 rfl rfl rfl rfl rfl rfl (by first | exact .head | exact .tail .head | exact .tail (.tail .head) | exact .tail (.tail (.tail .head)) | exact .tail (.tail (.tail (.tail .head))) | exact .tail (.tail (.tail (.tail (.tail .head))))) (by simp) (by first | ((with_reducible refine splice_all _ _ ?_); simp; done) | (simp only [splice, stL, digL, List.take_succ_cons, List.take_zero, List.drop_succ_cons, List.drop_zero, List.length_cons, List.length_nil, Nat.reduceAdd, Nat.reduceMul, Nat.zero_add, Nat.zero_mul, List.cons_append, List.nil_append]; exact rfl)) ?_)
      refine gl_nil ?_
      refine gk_block ?_
      refine gk_seq ?_
      refine gc_region ?_
      refine gl_cons (gs_val (val_move rfl) rfl rfl rfl ?_)
      refine gl_cons (gs_val (val_addC (r := 8) rfl rfl (by decide)) rfl rfl rfl ?_)
      refine gl_cons (gs_val (val_assign rfl) rfl rfl rfl ?_)
      refine gl_nil ?_
      refine gk_rounds ?_
      refine gc_seq ?_
      refine gc_seq ?_
      refine gc_region ?_
      refine gl_cons (gs_val (val_move rfl) rfl rfl rfl ?_)
      refine gl_cons (gs_val (val_lss rfl rfl) rfl rfl rfl ?_)
      refine gl_nil ?_
      refine gk_seq ?_
      refine gc_false rfl ?_
      refine gc_exit ?_
      refine gk_seq_exit ?_
      refine gk_rounds_exit ?_
      refine gk_block_exit ?_
      refine gk_seq ?_
      refine gc_seq ?_
      refine gc_draw (m := 4) kmixed (by kernel_rfl) ?_
      refine gq_val (val_loadA kag30 rfl (sees_mem (by repeat (first | exact .head _ | refine .tail _ ?_ | refine List.mem_append_right _ ?_))) rfl rfl) rfl rfl rfl ?_
      refine gq_val (val_loadA (ds := digL (boxW l)) kag30 rfl (sees_mem (by repeat (first | exact .head _ | refine .tail _ ?_ | refine List.mem_append_right _ ?_))) (by exact hbc.symm) rfl) rfl rfl rfl ?_
      refine gq_val (val_move rfl) rfl rfl rfl ?_
      refine gq_val (val_sliceL (l := 8) ksl54 rfl rfl rfl (by omega)) rfl rfl rfl ?_
      refine gq_nil ?_
      refine gl_cons (gs_makes (enters kcall166 (.cons rfl (.cons rfl (.cons rfl .nil)))) (turn_spec k (boxW l) (sl ba cap 8 1) (n - 8) (cap - 8) (l.drop 8) hdl (by omega)) rfl rfl rfl (row_of_sees (((sees_row hpre).sl (cap := cap) (l := 8) (size := 1) (by rw [List.length_map, hn, Nat.mul_one]; exact hcap)).cast (by rw [Nat.mul_one, ← List.map_drop]))) (fun ⟨ba30, c30, N30⟩ h30 => ?_))
      refine gl_cons (gs_val (val_assign rfl) rfl rfl rfl ?_)
      refine gl_nil ?_
      refine gk_seq ?_
      refine gc_seq ?_
      refine gc_seq ?_
      refine gc_drawAll kmixed (by kernel_rfl) ?_
      refine gq_val (val_loadA kag30 rfl (sees_mem (by repeat (first | exact .head _ | refine .tail _ ?_ | refine List.mem_append_right _ ?_))) rfl rfl) rfl rfl rfl ?_
      refine gq_val (val_move rfl) rfl rfl rfl ?_
      refine gq_pure (enters kcall165 (.cons rfl (.cons rfl .nil))) (rcheck_spec k ba30 (n - 8) c30 (boxP k l) (by rw [box_len k l (by omega), hn]) (by omega) h30.cap) rfl rfl rfl (row_of_sees (h30.look (by repeat (first | exact .here | exact .headR | exact .app | refine .tail ?_ | refine .appr ?_)))) ?_
      refine gq_val (val_loadA (ds := digL (boxW l)) kag30 rfl (sees_mem (by repeat (first | exact .head _ | refine .tail _ ?_ | refine List.mem_append_right _ ?_))) (by exact hbc.symm) rfl) rfl rfl rfl ?_
      refine gq_val (val_neqDig kdig30 rfl rfl rfl rfl) rfl rfl rfl ?_
      refine gq_nil ?_
      refine gl_nil ?_
      refine gk_seq ?_
      refine gc_if rfl (fun h28 => ?_) (fun h28 => ?_)
      · have ho := openE_bad k l (by omega) (by omega) h28
        refine gc_seq ?_
        refine gc_region ?_
        refine gl_cons (gs_val (val_assign rfl) rfl rfl rfl ?_)
        refine gl_cons (gs_val (val_assign rfl) rfl rfl rfl ?_)
        refine gl_nil ?_
        refine gk_seq ?_
        refine gc_ret ?_
        refine gk_seq_ret ?_
        first | (refine gk_ret rfl (resv_tmp rfl (resv_tmp rfl .nil)) (List.nil_sublist _) ?_; (first | (refine ⟨(none, 0, []), ?_, ?_, rfl⟩; (show Own _ 1 none (openL k l).length 0 ((openL k l).map U8) []; rw [ho.2]; exact .nil); (rw [ho.1, ho.2]; rfl)) | (refine ⟨(ba30, c30, N30), ?_, ?_, rfl⟩; (show Own _ 1 ba30 (openL k l).length c30 ((openL k l).map U8) N30; rw [ho.2, box_len k l (by omega), hn]; exact h30); (rw [ho.1, ho.2, box_len k l (by omega), hn]; rfl)))) | (refine gk_ret rfl (resv_tmp rfl (resv_tmp rfl .nil)) (List.sublist_append_left _ _) ?_; (first | (refine ⟨(none, 0, []), ?_, ?_, rfl⟩; (show Own _ 1 none (openL k l).length 0 ((openL k l).map U8) []; rw [ho.2]; exact .nil); (rw [ho.1, ho.2]; rfl)) | (refine ⟨(ba30, c30, N30), ?_, ?_, rfl⟩; (show Own _ 1 ba30 (openL k l).length c30 ((openL k l).map U8) N30; rw [ho.2, box_len k l (by omega), hn]; exact h30); (rw [ho.1, ho.2, box_len k l (by omega), hn]; rfl))))
      · have ho := openE_good k l (by omega) (by omega) (Decidable.not_not.1 h28)
        refine gc_skip ?_
        refine gk_seq ?_
        refine gc_seq ?_
        refine gc_region ?_
        refine gl_cons (gs_val (val_move rfl) rfl rfl rfl ?_)
        refine gl_cons (gs_val (val_assign rfl) rfl rfl rfl ?_)
        refine gl_cons (gs_val (val_assign rfl) rfl rfl rfl ?_)
        refine gl_nil ?_
        refine gk_seq ?_
        refine gc_ret ?_
        first | (refine gk_ret rfl (resv_tmp rfl (resv_tmp rfl .nil)) (List.nil_sublist _) ?_; (first | (refine ⟨(none, 0, []), ?_, ?_, rfl⟩; (show Own _ 1 none (openL k l).length 0 ((openL k l).map U8) []; rw [ho.2]; exact .nil); (rw [ho.1, ho.2]; rfl)) | (refine ⟨(ba30, c30, N30), ?_, ?_, rfl⟩; (show Own _ 1 ba30 (openL k l).length c30 ((openL k l).map U8) N30; rw [ho.2, box_len k l (by omega), hn]; exact h30); (rw [ho.1, ho.2, box_len k l (by omega), hn]; rfl)))) | (refine gk_ret rfl (resv_tmp rfl (resv_tmp rfl .nil)) (List.sublist_append_left _ _) ?_; (first | (refine ⟨(none, 0, []), ?_, ?_, rfl⟩; (show Own _ 1 none (openL k l).length 0 ((openL k l).map U8) []; rw [ho.2]; exact .nil); (rw [ho.1, ho.2]; rfl)) | (refine ⟨(ba30, c30, N30), ?_, ?_, rfl⟩; (show Own _ 1 ba30 (openL k l).length c30 ((openL k l).map U8) N30; rw [ho.2, box_len k l (by omega), hn]; exact h30); (rw [ho.1, ho.2, box_len k l (by omega), hn]; rfl))))

end Go.Proofs.Ytddckbhlfeegoaa
