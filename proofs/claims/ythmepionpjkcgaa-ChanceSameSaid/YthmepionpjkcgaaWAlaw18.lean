/- The walk of functions of the program: what each computes, for every input. -/
import Derived.Test.YthmepionpjkcgaaWAFacts
import Derived.Test.YthmepionpjkcgaaWAchance
namespace Go.Proofs.Ythmepionpjkcgaa
open Go Go.Eng
set_option linter.unusedVariables false
set_option linter.unusedSimpArgs false

theorem cThrow_spec (ba : Option Addr) (n cap : Nat) (l : List (BitVec 64)) (hn : l.length = n) (hl : n ≤ 1048576) (m : Int) : Pure Try.prog 89 ([I64 m, .slice ba n cap]).toArray (fun w => Row w [] ba (l.flatMap digL)) (.tuple #[I64 (throwI m (sumB l)), I64 (throwE m)]) := by
  by_cases h : Sides m
  · rw [show throwE m = 0 from if_pos h]; exact cThrow_ok ba n cap l hn hl m h
  · rw [show throwE m = 2 from if_neg h, throw_out m _ h]; exact fun w0 h1 h2 _ => cThrow_no ba n cap l hn hl m h w0 h1 h2 trivial

theorem rThrow_spec (ba : Option Addr) (n cap : Nat) (l : List (BitVec 64)) (hn : l.length = n) (hl : n ≤ 1048576) (m : Int) : Pure Try.prog 91 ([I64 m, .slice ba n cap]).toArray (fun w => Row w [] ba (l.flatMap digL)) (.tuple #[I64 (throwI m (sumB l)), I64 (throwE m)]) := by
  by_cases h : Sides m
  · rw [show throwE m = 0 from if_pos h]; exact rThrow_ok ba n cap l hn hl m h
  · rw [show throwE m = 2 from if_neg h, throw_out m _ h]; exact fun w0 h1 h2 _ => rThrow_no ba n cap l hn hl m h w0 h1 h2 trivial

theorem cNeeded_spec (ba : Option Addr) (n cap : Nat) (l : List (BitVec 64)) (hn : l.length = n) (hl : n ≤ 65536) (m v : Int) : Pure Try.prog 92 ([I64 m, I64 v, .slice ba n cap]).toArray (fun w => Row w [] ba (l.flatMap digL)) (.tuple #[U64 (needW m v (sumB l)), I64 (needE m v)]) := by
  by_cases h : needOk m v
  · rw [show needE m v = 0 from if_pos h, show needW m v (sumB l) = needB m v (sumB l) from if_pos h]; exact cNeeded_ok ba n cap l hn (by omega) m v h.1 h.2.1 h.2.2
  · rw [show needE m v = 2 from if_neg h, show needW m v (sumB l) = 0#64 from if_neg h]; exact fun w0 h1 h2 _ => cNeeded_no ba n cap l hn (by omega) m v h w0 h1 h2 trivial

theorem rNeeded_spec (ba : Option Addr) (n cap : Nat) (l : List (BitVec 64)) (hn : l.length = n) (hl : n ≤ 65536) (m v : Int) : Pure Try.prog 93 ([I64 m, I64 v, .slice ba n cap]).toArray (fun w => Row w [] ba (l.flatMap digL)) (.tuple #[U64 (needW m v (sumB l)), I64 (needE m v)]) := by
  by_cases h : needOk m v
  · rw [show needE m v = 0 from if_pos h, show needW m v (sumB l) = needB m v (sumB l) from if_pos h]; exact rNeeded_ok ba n cap l hn (by omega) m v hl h.1 h.2.1 h.2.2
  · rw [show needE m v = 2 from if_neg h, show needW m v (sumB l) = 0#64 from if_neg h]; exact fun w0 h1 h2 _ => rNeeded_no ba n cap l hn (by omega) m v h w0 h1 h2 trivial

/-- baize/baizelaw18.Of -/
theorem of18_spec (ba : Option Addr) (n cap : Nat) (l : List (BitVec 64)) (hn : l.length = n) (hl : n ≤ 1048576) : Makes Try.prog 90 ([.slice ba n cap]).toArray (fun w => Row w [] ba (l.flatMap digL)) (fun s : Option Addr × Nat × List Ent => Own 24 8 s.1 n s.2.1 (l.flatMap digL) s.2.2) (fun s => .slice s.1 n s.2.1) (fun s => s.2.2) := by
  refine spec_walk (n := 18) Try.func90 rfl rfl rfl (fun w0 hpre => ?_)
  refine gc_seq ?_
  refine gc_region ?_
  refine gl_cons (gs_val (val_assign rfl) rfl rfl rfl ?_)
  refine gl_nil ?_
  refine gk_seq ?_
  refine gc_seq ?_
  refine gc_region ?_
  refine gl_cons (gs_val (val_assign rfl) rfl rfl rfl ?_)
  refine gl_nil ?_
  refine gk_seq ?_
  refine gc_seq ?_
  refine gc_seq ?_
  refine gc_region ?_
  refine gl_cons (gs_val (val_move rfl) rfl rfl rfl ?_)
  refine gl_cons (gs_val (val_lenSli ksl42 rfl) rfl rfl rfl ?_)
  refine gl_cons (gs_val (val_move rfl) rfl rfl rfl ?_)
  refine gl_nil ?_
  refine gk_seq ?_
  refine gc_block ?_
  refine gc_loop (σ := Nat × Option Addr × Nat × List Ent) (I := fun v => v.1 ≤ l.length ∧ Own 24 8 v.2.1 v.1 v.2.2.1 ((l.take v.1).flatMap digL) v.2.2.2) (μ := fun v => l.length - v.1) (EI := fun v => [(3, .slice v.2.1 v.1 v.2.2.1), (8, I64 (v.1 : Int)), (6, .slice ba n cap), (7, I64 (n : Int))]) (LI := fun v => v.2.2.2) (0, none, 0, []) ?_ ?_ ?_ ?_
  · exact ⟨Nat.zero_le _, .nil⟩
  · exact (.cons rfl (.cons rfl (.cons rfl (.cons rfl .nil))))
  · exact fun _ h => h
  · intro ⟨k, ba', c', N⟩ ⟨hkl, hown⟩
    dsimp only
    have hkl : k ≤ l.length := hkl
    have hown : Own 24 8 ba' k c' ((l.take k).flatMap digL) N := hown
    refine gc_seq ?_
    refine gc_region ?_
    refine gl_cons (gs_val (val_lss rfl rfl) rfl rfl rfl ?_)
    refine gl_nil ?_
    refine gk_seq ?_
    refine gc_seq ?_
    refine gc_if rfl (fun hk => ?_) (fun hk => ?_)
    · have hk : k < l.length := by omega
      refine gc_skip ?_
      refine gk_seq ?_
      refine gc_seq ?_
      refine gc_block ?_
      refine gc_seq ?_
      refine gc_region ?_
      refine gl_cons (gs_val (val_indexSli ksl42 rfl rfl rfl (by omega) (sees_row hpre) (by (try simp only [List.length_map, Nat.mul_one, dig_len, inc_len]); omega)) rfl rfl rfl ?_)
      refine gl_cons (gs_val (val_loadA kag22 rfl ((sees_row hpre).elem8 hk) rfl rfl) rfl rfl rfl ?_)
      refine gl_cons (gs_alloc kze22 rfl rfl rfl (fun b5 => ?_))
      refine gl_cons (gs_store ksz22 rfl rfl rfl rfl rfl rfl (by first | exact .head | exact .tail .head | exact .tail (.tail .head) | exact .tail (.tail (.tail .head)) | exact .tail (.tail (.tail (.tail .head))) | exact .tail (.tail (.tail (.tail (.tail .head))))) (by simp) (by first | ((with_reducible refine splice_all _ _ ?_); simp; done) | (simp only [splice, stL, digL, List.take_succ_cons, List.take_zero, List.drop_succ_cons, List.drop_zero, List.length_cons, List.length_nil, Nat.reduceAdd, Nat.reduceMul, Nat.zero_add, Nat.zero_mul, List.cons_append, List.nil_append]; exact rfl)) ?_)
      refine gl_nil ?_
      refine gk_seq ?_
      refine gc_region ?_
      refine gl_cons (gs_val (val_move rfl) rfl rfl rfl ?_)
      refine gl_cons (gs_val (val_loadA kag22 rfl (sees_mem (by repeat (first | exact .head _ | refine .tail _ ?_ | refine List.mem_append_right _ ?_))) rfl rfl) rfl rfl rfl ?_)
      refine gl_cons (gs_buildSlice (zs := [.int .u8 0, .int .u8 0, .int .u8 0, .int .u8 0, .int .u8 0, .int .u8 0, .int .u8 0, .int .u8 0]) ksl43 kze24 rfl rfl (.cons rfl .nil) (.cons rfl rfl rfl (by simp) (by first | ((with_reducible refine splice_all _ _ ?_); simp; done) | (simp only [splice, stL, digL, List.take_succ_cons, List.take_zero, List.drop_succ_cons, List.drop_zero, List.length_cons, List.length_nil, Nat.reduceAdd, Nat.reduceMul, Nat.zero_add, Nat.zero_mul, List.cons_append, List.nil_append]; exact rfl)) .nil) rfl rfl (fun b14 => ?_))
      refine gl_cons (gs_append ksl43 kze24 rfl rfl rfl rfl rfl rfl (hown) (fun _ => by first | exact .here | exact .headR | exact .app | exact .tail .here | exact .tail .headR | exact .tail .app | exact .tail (.tail .here) | exact .tail (.tail .headR) | exact .tail (.tail .app) | exact .tail (.tail (.tail .here)) | exact .tail (.tail (.tail .headR)) | exact .tail (.tail (.tail .app)) | exact .tail (.tail (.tail (.tail .here))) | exact .tail (.tail (.tail (.tail .headR))) | exact .tail (.tail (.tail (.tail .app))) | exact .tail (.tail (.tail (.tail (.tail .here)))) | exact .tail (.tail (.tail (.tail (.tail .headR)))) | exact .tail (.tail (.tail (.tail (.tail .app)))) | exact .appr .here | exact .appr .headR | exact .appr .app | exact .tail (.appr .here) | exact .tail (.appr .headR) | exact .tail (.appr .app) | exact .tail (.tail (.appr .here)) | exact .tail (.tail (.appr .headR)) | exact .tail (.tail (.appr .app)) | exact .appr (.tail .here) | exact .appr (.tail .headR) | exact .appr (.tail .app) | exact .appr (.tail (.tail .here)) | exact .appr (.tail (.tail .headR)) | exact .appr (.tail (.tail .app)) | exact .appr (.appr .here) | exact .appr (.appr .headR) | exact .appr (.appr .app) | exact .tail (.appr (.appr .here)) | exact .tail (.appr (.appr .headR)) | exact .tail (.appr (.appr .app)) | exact .appr (.appr (.tail .here)) | exact .appr (.appr (.tail .headR)) | exact .appr (.appr (.tail .app)) | exact .appr (.appr (.appr .here)) | exact .appr (.appr (.appr .headR)) | exact .appr (.appr (.appr .app))) (brings_slice ksl43 (sees_all (by repeat (first | exact .head _ | refine .tail _ ?_ | refine List.mem_append_right _ ?_))) rfl (one_dig _)) (by omega) (fun ba15 c15 N15 hown15 => ?_))
      refine gl_cons (gs_val (val_assign rfl) rfl rfl rfl ?_)
      refine gl_nil ?_
      refine gk_block ?_
      refine gk_seq ?_
      refine gc_region ?_
      refine gl_cons (gs_val (val_addI rfl rfl (by omega)) rfl rfl rfl ?_)
      refine gl_cons (gs_val (val_move rfl) rfl rfl rfl ?_)
      refine gl_nil ?_
      refine gk_again (k + 1, ba15, c15, N15) ?_ ?_ ?_ ?_
      · exact ⟨by show k + 1 ≤ l.length; omega, by show Own 24 8 ba15 (k + 1) c15 ((l.take (k + 1)).flatMap digL) N15; rw [flat_snoc digL l k hk]; exact hown15⟩
      · show l.length - (k + 1) < l.length - k; omega
      · exact (.cons (rfl) (.cons (rfl) (.cons (rfl) (.cons (rfl) .nil))))
      · exact fun _ h => h.sub (List.Sublist.cons _ (List.sublist_cons_self _ _))
    · have e : n = k := by omega
      subst e
      have hown2 : Own 24 8 ba' n c' (l.flatMap digL) N := by have := hown; rwa [List.take_of_length_le (by omega)] at this
      refine gc_exit ?_
      refine gk_seq_exit ?_
      refine gk_loop_exit ?_
      refine gk_block_exit ?_
      refine gk_seq ?_
      refine gc_seq ?_
      refine gc_region ?_
      refine gl_cons (gs_val (val_move rfl) rfl rfl rfl ?_)
      refine gl_cons (gs_val (val_assign rfl) rfl rfl rfl ?_)
      refine gl_nil ?_
      refine gk_seq ?_
      refine gc_ret ?_
      refine gk_ret rfl (resv_tmp rfl .nil) (List.Sublist.refl _) ?_
      exact ⟨(ba', c', N), hown2, rfl, rfl⟩

/-- baize/baizelaw18.known -/
theorem known18_spec  : Pure Try.prog 85 ([]).toArray (fun _ => True) (.bool true) := by
  refine spec_walk (n := 38) Try.func85 rfl rfl rfl (fun w0 hpre => ?_)
  refine gc_seq ?_
  refine gc_region ?_
  refine gl_cons (gs_val (val_assign rfl) rfl rfl rfl ?_)
  refine gl_nil ?_
  refine gk_seq ?_
  refine gc_seq ?_
  refine gc_region ?_
  refine gl_cons (gs_pure (enters kcall38 (.cons rfl .nil)) (fromNum_spec 5#64) rfl rfl rfl (fun _ _ => trivial) ?_)
  refine gl_cons (gs_pure (enters kcall38 (.cons rfl .nil)) (fromNum_spec 8#64) rfl rfl rfl (fun _ _ => trivial) ?_)
  refine gl_cons (gs_buildSlice (zs := [.int .u8 0, .int .u8 0, .int .u8 0, .int .u8 0, .int .u8 0, .int .u8 0, .int .u8 0, .int .u8 0, .int .u8 0, .int .u8 0, .int .u8 0, .int .u8 0, .int .u8 0, .int .u8 0, .int .u8 0, .int .u8 0]) ksl43 kze24 rfl rfl (.cons rfl (.cons rfl .nil)) (.cons rfl rfl rfl (by simp) (by first | ((with_reducible refine splice_all _ _ ?_); simp; done) | (simp only [splice, stL, digL, List.take_succ_cons, List.take_zero, List.drop_succ_cons, List.drop_zero, List.length_cons, List.length_nil, Nat.reduceAdd, Nat.reduceMul, Nat.zero_add, Nat.zero_mul, List.cons_append, List.nil_append]; exact rfl)) (.cons rfl rfl rfl (by simp) (by first | ((with_reducible refine splice_all _ _ ?_); simp; done) | (simp only [splice, stL, digL, List.take_succ_cons, List.take_zero, List.drop_succ_cons, List.drop_zero, List.length_cons, List.length_nil, Nat.reduceAdd, Nat.reduceMul, Nat.zero_add, Nat.zero_mul, List.cons_append, List.nil_append]; exact rfl)) .nil)) rfl rfl (fun b8 => ?_))
  refine gl_cons (gs_pure (enters kcall89 (.cons rfl (.cons rfl .nil))) (cThrow_ok (some ⟨b8, 0, none⟩) 2 2 [5#64, 8#64] rfl (by decide) 6 (by decide)) rfl rfl rfl (row_of_sees (sees_all (by repeat (first | exact .head _ | refine .tail _ ?_ | refine List.mem_append_right _ ?_)))) ?_)
  refine gl_cons (gs_val (val_move rfl) rfl rfl rfl ?_)
  refine gl_cons (gs_val (val_extract rfl rfl) rfl rfl rfl ?_)
  refine gl_cons (gs_val (val_extract rfl rfl) rfl rfl rfl ?_)
  refine gl_cons (gs_val (val_assign rfl) rfl rfl rfl ?_)
  refine gl_cons (gs_val (val_assign rfl) rfl rfl rfl ?_)
  refine gl_nil ?_
  refine gk_seq ?_
  refine gc_seq ?_
  refine gc_region ?_
  refine gl_cons (gs_pure (enters kcall38 (.cons rfl .nil)) (fromNum_spec 5#64) rfl rfl rfl (fun _ _ => trivial) ?_)
  refine gl_cons (gs_buildSlice (zs := [.int .u8 0, .int .u8 0, .int .u8 0, .int .u8 0, .int .u8 0, .int .u8 0, .int .u8 0, .int .u8 0]) ksl43 kze24 rfl rfl (.cons rfl .nil) (.cons rfl rfl rfl (by simp) (by first | ((with_reducible refine splice_all _ _ ?_); simp; done) | (simp only [splice, stL, digL, List.take_succ_cons, List.take_zero, List.drop_succ_cons, List.drop_zero, List.length_cons, List.length_nil, Nat.reduceAdd, Nat.reduceMul, Nat.zero_add, Nat.zero_mul, List.cons_append, List.nil_append]; exact rfl)) .nil) rfl rfl (fun b14 => ?_))
  refine gl_cons (gs_pure (enters kcall92 (.cons rfl (.cons rfl (.cons rfl .nil)))) (cNeeded_ok (some ⟨b14, 0, none⟩) 1 1 [5#64] rfl (by decide) 6 2 (by decide) (by decide) (by decide)) rfl rfl rfl (row_of_sees (sees_all (by repeat (first | exact .head _ | refine .tail _ ?_ | refine List.mem_append_right _ ?_)))) ?_)
  refine gl_cons (gs_val (val_move rfl) rfl rfl rfl ?_)
  refine gl_cons (gs_val (val_extract rfl rfl) rfl rfl rfl ?_)
  refine gl_cons (gs_val (val_extract rfl rfl) rfl rfl rfl ?_)
  refine gl_cons (gs_val (val_assign rfl) rfl rfl rfl ?_)
  refine gl_cons (gs_val (val_assign rfl) rfl rfl rfl ?_)
  refine gl_nil ?_
  refine gk_seq ?_
  refine gc_seq ?_
  refine gc_region ?_
  refine gl_cons (gs_buildSlice (zs := [.bool false, .bool false, .bool false, .bool false]) ksl104 kze4 rfl rfl (.cons rfl (.cons rfl (.cons rfl (.cons rfl .nil)))) (.cons rfl rfl rfl (by simp) (by first | ((with_reducible refine splice_all _ _ ?_); simp; done) | (simp only [splice, stL, digL, List.take_succ_cons, List.take_zero, List.drop_succ_cons, List.drop_zero, List.length_cons, List.length_nil, Nat.reduceAdd, Nat.reduceMul, Nat.zero_add, Nat.zero_mul, List.cons_append, List.nil_append]; exact rfl)) (.cons rfl rfl rfl (by simp) (by first | ((with_reducible refine splice_all _ _ ?_); simp; done) | (simp only [splice, stL, digL, List.take_succ_cons, List.take_zero, List.drop_succ_cons, List.drop_zero, List.length_cons, List.length_nil, Nat.reduceAdd, Nat.reduceMul, Nat.zero_add, Nat.zero_mul, List.cons_append, List.nil_append]; exact rfl)) (.cons rfl rfl rfl (by simp) (by first | ((with_reducible refine splice_all _ _ ?_); simp; done) | (simp only [splice, stL, digL, List.take_succ_cons, List.take_zero, List.drop_succ_cons, List.drop_zero, List.length_cons, List.length_nil, Nat.reduceAdd, Nat.reduceMul, Nat.zero_add, Nat.zero_mul, List.cons_append, List.nil_append]; exact rfl)) (.cons rfl rfl rfl (by simp) (by first | ((with_reducible refine splice_all _ _ ?_); simp; done) | (simp only [splice, stL, digL, List.take_succ_cons, List.take_zero, List.drop_succ_cons, List.drop_zero, List.length_cons, List.length_nil, Nat.reduceAdd, Nat.reduceMul, Nat.zero_add, Nat.zero_mul, List.cons_append, List.nil_append]; exact rfl)) .nil)))) rfl rfl (fun b18 => ?_))
  refine gl_cons (gs_makes (enters kcall86 (.cons rfl (.cons rfl .nil))) (cOrder_spec (some ⟨b18, 0, none⟩) 4 4 [false, false, false, true] rfl 1 (by decide)) rfl rfl rfl (row_of_sees (sees_all (by repeat (first | exact .head _ | refine .tail _ ?_ | refine List.mem_append_right _ ?_)))) (fun ⟨ba19, c19, N19⟩ h19 => ?_))
  refine gl_cons (gs_buildSlice (zs := [.int .i64 0, .int .i64 0, .int .i64 0]) ksl105 kze3 rfl rfl (.cons rfl (.cons rfl (.cons rfl .nil))) (.cons rfl rfl rfl (by simp) (by first | ((with_reducible refine splice_all _ _ ?_); simp; done) | (simp only [splice, stL, digL, List.take_succ_cons, List.take_zero, List.drop_succ_cons, List.drop_zero, List.length_cons, List.length_nil, Nat.reduceAdd, Nat.reduceMul, Nat.zero_add, Nat.zero_mul, List.cons_append, List.nil_append]; exact rfl)) (.cons rfl rfl rfl (by simp) (by first | ((with_reducible refine splice_all _ _ ?_); simp; done) | (simp only [splice, stL, digL, List.take_succ_cons, List.take_zero, List.drop_succ_cons, List.drop_zero, List.length_cons, List.length_nil, Nat.reduceAdd, Nat.reduceMul, Nat.zero_add, Nat.zero_mul, List.cons_append, List.nil_append]; exact rfl)) (.cons rfl rfl rfl (by simp) (by first | ((with_reducible refine splice_all _ _ ?_); simp; done) | (simp only [splice, stL, digL, List.take_succ_cons, List.take_zero, List.drop_succ_cons, List.drop_zero, List.length_cons, List.length_nil, Nat.reduceAdd, Nat.reduceMul, Nat.zero_add, Nat.zero_mul, List.cons_append, List.nil_append]; exact rfl)) .nil))) rfl rfl (fun b20 => ?_))
  refine gl_cons (gs_pure (enters kcall87 (.cons rfl (.cons rfl .nil))) (same18_yes _ _ _ _ _ _ (orderI 1 [false, false, false, true]) [2, 0, 1] rfl rfl (by decide) (by decide)) rfl rfl rfl (fun w hi => ⟨row_of_sees (h19.look (by repeat (first | exact .here | exact .headR | exact .app | refine .tail ?_ | refine .appr ?_))) w hi, row_of_sees (sees_all (by repeat (first | exact .head _ | refine .tail _ ?_ | refine List.mem_append_right _ ?_))) w hi⟩) ?_)
  refine gl_cons (gs_val (val_move rfl) rfl rfl rfl ?_)
  refine gl_cons (gs_val (val_move rfl) rfl rfl rfl ?_)
  refine gl_cons (gs_val (val_yes (val_eql rfl rfl) (by decide)) rfl rfl rfl ?_)
  refine gl_cons (gs_val (val_pick_t rfl rfl) rfl rfl rfl ?_)
  refine gl_cons (gs_val (val_move rfl) rfl rfl rfl ?_)
  refine gl_cons (gs_val (val_move rfl) rfl rfl rfl ?_)
  refine gl_cons (gs_val (val_yes (val_eql rfl rfl) rfl) rfl rfl rfl ?_)
  refine gl_cons (gs_val (val_pick_t rfl rfl) rfl rfl rfl ?_)
  refine gl_cons (gs_val (val_move rfl) rfl rfl rfl ?_)
  refine gl_cons (gs_val (val_move rfl) rfl rfl rfl ?_)
  refine gl_cons (gs_val (val_yes (val_eq64 (j := 2#64) rfl rfl rfl rfl) (by decide)) rfl rfl rfl ?_)
  refine gl_cons (gs_val (val_pick_t rfl rfl) rfl rfl rfl ?_)
  refine gl_cons (gs_val (val_move rfl) rfl rfl rfl ?_)
  refine gl_cons (gs_val (val_move rfl) rfl rfl rfl ?_)
  refine gl_cons (gs_val (val_yes (val_eql rfl rfl) rfl) rfl rfl rfl ?_)
  refine gl_cons (gs_val (val_pick_t rfl rfl) rfl rfl rfl ?_)
  refine gl_cons (gs_val (val_assign rfl) rfl rfl rfl ?_)
  refine gl_nil ?_
  refine gk_seq ?_
  refine gc_ret ?_
  refine gk_ret rfl (resv_tmp rfl .nil) (List.nil_sublist _) ?_
  exact ⟨rfl, rfl⟩

/-- baize/baizelaw18.ChanceOrder -/
theorem chanceOrder_walk (m : Int) (ba : Option Addr) (n cap : Nat) (g : List Bool) (hn : g.length = n) : Pure Try.prog 27 ([I64 m, .slice ba n cap]).toArray (fun w => Row w [] ba (g.map Value.bool)) (.bool true) := by
  refine spec_walk (n := 84) Try.func27 rfl rfl rfl (fun w0 hpre => ?_)
  refine gc_seq ?_
  refine gc_region ?_
  refine gl_cons (gs_val (val_assign rfl) rfl rfl rfl ?_)
  refine gl_nil ?_
  refine gk_seq ?_
  refine gc_seq ?_
  refine gc_seq ?_
  refine gc_region ?_
  refine gl_cons (gs_pure (enters kcall85 .nil) (known18_spec) rfl rfl rfl (fun _ _ => trivial) ?_)
  refine gl_cons (gs_val (val_not rfl) rfl rfl rfl ?_)
  refine gl_cons (gs_val (val_move rfl) rfl rfl rfl ?_)
  refine gl_cons (gs_val (val_move rfl) rfl rfl rfl ?_)
  refine gl_cons (gs_val (val_lenSli ksl104 rfl) rfl rfl rfl ?_)
  refine gl_cons (gs_val (val_gtr rfl rfl) rfl rfl rfl ?_)
  refine gl_cons (gs_val (val_pick_f rfl rfl) rfl rfl rfl ?_)
  refine gl_nil ?_
  refine gk_seq ?_
  refine gc_if rfl (fun h18 => ?_) (fun h18 => ?_)
  · skip
    refine gc_seq ?_
    refine gc_region ?_
    refine gl_cons (gs_pure (enters kcall85 .nil) (known18_spec) rfl rfl rfl (fun _ _ => trivial) ?_)
    refine gl_cons (gs_val (val_assign rfl) rfl rfl rfl ?_)
    refine gl_nil ?_
    refine gk_seq ?_
    refine gc_ret ?_
    refine gk_seq_ret ?_
    refine gk_ret rfl (resv_tmp rfl .nil) (List.nil_sublist _) ?_
    exact ⟨rfl, rfl⟩
  · have hn60 : n ≤ 60 := by omega
    refine gc_skip ?_
    refine gk_seq ?_
    refine gc_seq ?_
    refine gc_region ?_
    refine gl_cons (gs_val (val_move rfl) rfl rfl rfl ?_)
    refine gl_cons (gs_val (val_move rfl) rfl rfl rfl ?_)
    refine gl_cons (gs_makes (enters kcall86 (.cons rfl (.cons rfl .nil))) (cOrder_spec ba n cap g hn m (by omega)) rfl rfl rfl (row_of_sees (sees_row hpre)) (fun ⟨ba22, c22, N22⟩ h22 => ?_))
    refine gx_perm (M := N22) (by show List.Perm (N22 ++ []) _; rw [List.append_nil]) ?_
    refine gl_cons (gs_val (val_assign rfl) rfl rfl rfl ?_)
    refine gl_nil ?_
    refine gk_seq ?_
    refine gc_seq ?_
    refine gc_seq ?_
    refine gc_region ?_
    refine gl_cons (gs_val (val_move rfl) rfl rfl rfl ?_)
    refine gl_cons (gs_val (val_move rfl) rfl rfl rfl ?_)
    refine gl_cons (gs_val (val_move rfl) rfl rfl rfl ?_)
    refine gl_cons (gs_makes (enters kcall88 (.cons rfl (.cons rfl .nil))) (rOrder_spec ba n cap g hn m (by omega)) rfl rfl rfl (row_of_sees (sees_row hpre)) (fun ⟨ba26, c26, N26⟩ h26 => ?_))
    refine gl_cons (gs_pure (enters kcall87 (.cons rfl (.cons rfl .nil))) (same18_yes _ _ _ _ _ _ (orderI m g) (orderI m g) rfl rfl (by have := orderI_len m g; omega) rfl) rfl rfl rfl (fun w hi => ⟨row_of_sees (h22.look (by repeat (first | exact .here | exact .headR | exact .app | refine .tail ?_ | refine .appr ?_))) w hi, row_of_sees (h26.look (by repeat (first | exact .here | exact .headR | exact .app | refine .tail ?_ | refine .appr ?_))) w hi⟩) ?_)
    refine gl_cons (gs_val (val_not rfl) rfl rfl rfl ?_)
    refine gl_nil ?_
    refine gk_seq ?_
    refine gc_false rfl ?_
    refine gc_skip ?_
    refine gk_seq ?_
    refine gc_seq ?_
    refine gc_seq ?_
    refine gc_region ?_
    refine gl_cons (gs_val (val_move rfl) rfl rfl rfl ?_)
    refine gl_cons (gs_val (val_lss rfl rfl) rfl rfl rfl ?_)
    refine gl_cons (gs_val (val_move rfl) rfl rfl rfl ?_)
    refine gx_split 31 rfl (fun h31 => ?_) (fun h31 => ?_)
    · skip
      refine gl_cons (gs_skip rfl rfl rfl ?_)
      refine gl_cons (gs_skip rfl rfl rfl ?_)
      refine gl_cons (gs_skip rfl rfl rfl ?_)
      refine gl_cons (gs_skip rfl rfl rfl ?_)
      refine gl_cons (gs_val (val_pick_t rfl rfl) rfl rfl rfl ?_)
      refine gl_nil ?_
      refine gk_seq ?_
      refine gc_true rfl ?_
      refine gc_seq ?_
      refine gc_region ?_
      refine gl_cons (gs_val (val_move rfl) rfl rfl rfl ?_)
      refine gl_cons (gs_val (val_lenSli ksl105 rfl) rfl rfl rfl ?_)
      refine gl_cons (gs_val (val_yes (val_eql rfl rfl) (by rw [orderI_out m g (by omega)]; rfl)) rfl rfl rfl ?_)
      refine gl_cons (gs_val (val_assign rfl) rfl rfl rfl ?_)
      refine gl_nil ?_
      refine gk_seq ?_
      refine gc_ret ?_
      refine gk_seq_ret ?_
      refine gk_ret rfl (resv_tmp rfl .nil) (List.nil_sublist _) ?_
      exact ⟨rfl, rfl⟩
    · skip
      refine gl_cons (gs_val (val_move rfl) rfl rfl rfl ?_)
      refine gl_cons (gs_val (val_move rfl) rfl rfl rfl ?_)
      refine gl_cons (gs_val (val_lenSli ksl104 rfl) rfl rfl rfl ?_)
      refine gl_cons (gs_val (val_geq rfl rfl) rfl rfl rfl ?_)
      refine gl_cons (gs_val (val_pick_f rfl rfl) rfl rfl rfl ?_)
      refine gl_nil ?_
      refine gk_seq ?_
      refine gc_if rfl (fun h36 => ?_) (fun h36 => ?_)
      · skip
        refine gc_seq ?_
        refine gc_region ?_
        refine gl_cons (gs_val (val_move rfl) rfl rfl rfl ?_)
        refine gl_cons (gs_val (val_lenSli ksl105 rfl) rfl rfl rfl ?_)
        refine gl_cons (gs_val (val_yes (val_eql rfl rfl) (by rw [orderI_out m g (by omega)]; rfl)) rfl rfl rfl ?_)
        refine gl_cons (gs_val (val_assign rfl) rfl rfl rfl ?_)
        refine gl_nil ?_
        refine gk_seq ?_
        refine gc_ret ?_
        refine gk_seq_ret ?_
        refine gk_ret rfl (resv_tmp rfl .nil) (List.nil_sublist _) ?_
        exact ⟨rfl, rfl⟩
      · have hm0 : 0 ≤ m := by omega
        have hm1 : m < (g.length : Int) := by omega
        have hmt : m.toNat < g.length := by omega
        have hlen := orderI_cnt m g hm0 hm1
        rw [hn] at hlen
        have hown22 : Own 3 1 ba22 (orderI m g).length c22 ((orderI m g).map NV) N22 := h22
        refine gc_skip ?_
        refine gk_seq ?_
        refine gc_seq ?_
        refine gc_region ?_
        refine gl_cons (gs_val (val_assign rfl) rfl rfl rfl ?_)
        refine gl_nil ?_
        refine gk_seq ?_
        refine gc_seq ?_
        refine gc_seq ?_
        refine gc_region ?_
        refine gl_cons (gs_val (val_move rfl) rfl rfl rfl ?_)
        refine gl_cons (gs_val (val_lenSli ksl104 rfl) rfl rfl rfl ?_)
        refine gl_cons (gs_val (val_move rfl) rfl rfl rfl ?_)
        refine gl_nil ?_
        refine gk_seq ?_
        refine gc_block ?_
        refine gc_loop (σ := Nat) (I := fun k => k ≤ n) (μ := fun k => n - k) (EI := fun k => [(6, I64 (cntN g k : Int)), (42, I64 (k : Int)), (0, I64 m), (1, .slice ba n cap), (5, .slice ba22 (orderI m g).length c22), (40, .slice ba n cap), (41, I64 (n : Int))]) (LI := fun k => N22) 0 ?_ ?_ ?_ ?_
        · exact Nat.zero_le _
        · exact (.cons rfl (.cons rfl (.cons rfl (.cons rfl (.cons rfl (.cons rfl (.cons rfl .nil)))))))
        · exact fun _ h => h.sub (by show List.Sublist N22 (N26 ++ N22); exact List.sublist_append_right _ _)
        · intro k hI
          have hI : k ≤ n := hI
          refine gc_seq ?_
          refine gc_region ?_
          refine gl_cons (gs_val (val_lss rfl rfl) rfl rfl rfl ?_)
          refine gl_nil ?_
          refine gk_seq ?_
          refine gc_seq ?_
          refine gc_if rfl (fun hk => ?_) (fun hk => ?_)
          · have hk : k < n := by omega
            have hkg : k < g.length := by omega
            have hcb := cntN_le g k
            refine gc_skip ?_
            refine gk_seq ?_
            refine gc_seq ?_
            refine gc_block ?_
            refine gc_seq ?_
            refine gc_region ?_
            refine gl_cons (gs_val (val_move rfl) rfl rfl rfl ?_)
            refine gl_cons (gs_val (val_indexSli ksl104 rfl rfl rfl (by omega) (sees_row hpre) (by (try simp only [List.length_map, Nat.mul_one, dig_len, inc_len]); omega)) rfl rfl rfl ?_)
            refine gl_cons (gs_val (val_cast (v := .bool (decide (g[k] = true))) (val_load1 kag4 rfl ((sees_row hpre).elem hkg) rfl) (congrArg Value.bool Bool.decide_eq_true.symm)) rfl rfl rfl ?_)
            refine gl_cons (gs_val (val_assign rfl) rfl rfl rfl ?_)
            refine gl_cons (gs_val (val_assign rfl) rfl rfl rfl ?_)
            refine gl_nil ?_
            refine gk_seq ?_
            refine gc_seq ?_
            refine gc_seq ?_
            refine gc_region ?_
            refine gl_cons (gs_val (val_move rfl) rfl rfl rfl ?_)
            refine gl_nil ?_
            refine gk_seq ?_
            refine gc_if rfl (fun h47 => ?_) (fun h47 => ?_)
            · skip
              refine gc_exit ?_
              refine gk_seq_exit ?_
              refine gk_block_exit ?_
              refine gk_seq ?_
              refine gc_region ?_
              refine gl_cons (gs_val (val_addI rfl rfl (by omega)) rfl rfl rfl ?_)
              refine gl_cons (gs_val (val_move rfl) rfl rfl rfl ?_)
              refine gl_nil ?_
              refine gk_again (k + 1) ?_ ?_ ?_ ?_
              · show k + 1 ≤ n; omega
              · show n - (k + 1) < n - k; omega
              · refine .cons (by first | exact congrArg (fun z : Nat => some (I64 (z : Int))) (cnt_out g k hkg h47).symm | exact congrArg (fun z : Nat => some (I64 (z : Int))) (cnt_in g k hkg h47).symm) ?_; repeat (first | exact .nil | refine .cons rfl ?_)
              · exact fun _ h => h
            · skip
              refine gc_skip ?_
              refine gk_seq ?_
              refine gc_seq ?_
              refine gc_region ?_
              refine gl_cons (gs_val (val_move rfl) rfl rfl rfl ?_)
              refine gl_cons (gs_val (val_addI rfl rfl (by omega)) rfl rfl rfl ?_)
              refine gl_cons (gs_val (val_assign rfl) rfl rfl rfl ?_)
              refine gl_nil ?_
              refine gk_seq ?_
              refine gc_seq ?_
              refine gc_region ?_
              refine gl_cons (gs_val (val_assign rfl) rfl rfl rfl ?_)
              refine gl_nil ?_
              refine gk_seq ?_
              refine gc_seq ?_
              refine gc_seq ?_
              refine gc_region ?_
              refine gl_cons (gs_val (val_move rfl) rfl rfl rfl ?_)
              refine gl_cons (gs_val (val_lenSli ksl105 rfl) rfl rfl rfl ?_)
              refine gl_cons (gs_val (val_move rfl) rfl rfl rfl ?_)
              refine gl_nil ?_
              refine gk_seq ?_
              refine gc_block ?_
              refine gc_loop (σ := Nat) (I := fun q => q ≤ (orderI m g).length) (μ := fun q => (orderI m g).length - q) (EI := fun q => [(9, I64 (((orderI m g).take q).count k : Int)), (52, I64 (q : Int)), (0, I64 m), (1, .slice ba n cap), (5, .slice ba22 (orderI m g).length c22), (6, I64 ((cntN g k : Int) + 1)), (7, I64 (k : Int)), (8, .bool (decide (g[k] = true))), (40, .slice ba n cap), (41, I64 (n : Int)), (42, I64 (k : Int)), (44, I64 (k : Int)), (46, .bool (decide (g[k] = true))), (47, .bool (decide (g[k] = true))), (48, I64 (cntN g k : Int)), (49, I64 ((cntN g k : Int) + 1)), (50, .slice ba22 (orderI m g).length c22), (51, I64 ((orderI m g).length : Int))]) (LI := fun q => N22) 0 ?_ ?_ ?_ ?_
              · exact Nat.zero_le _
              · exact (.cons rfl (.cons rfl (.cons rfl (.cons rfl (.cons rfl (.cons rfl (.cons rfl (.cons rfl (.cons rfl (.cons rfl (.cons rfl (.cons rfl (.cons rfl (.cons rfl (.cons rfl (.cons rfl (.cons rfl (.cons rfl .nil))))))))))))))))))
              · exact fun _ h => h
              · intro q hI2
                have hI2 : q ≤ (orderI m g).length := hI2
                refine gc_seq ?_
                refine gc_region ?_
                refine gl_cons (gs_val (val_lss rfl rfl) rfl rfl rfl ?_)
                refine gl_nil ?_
                refine gk_seq ?_
                refine gc_seq ?_
                refine gc_if rfl (fun hq => ?_) (fun hq => ?_)
                · have hq : q < (orderI m g).length := by omega
                  have hlen60 : (orderI m g).length ≤ 60 := by have := orderI_len m g; omega
                  have hqc := List.count_le_length (a := k) (l := (orderI m g).take q)
                  have hql : ((orderI m g).take q).length ≤ q := List.length_take_le _ _
                  refine gc_skip ?_
                  refine gk_seq ?_
                  refine gc_seq ?_
                  refine gc_block ?_
                  refine gc_seq ?_
                  refine gc_region ?_
                  refine gl_cons (gs_val (val_indexSli ksl105 rfl rfl rfl (by omega) (hown22.look (by repeat (first | exact .here | exact .headR | exact .app | refine .tail ?_ | refine .appr ?_))) (by (try simp only [List.length_map, Nat.mul_one, dig_len, inc_len]); omega)) rfl rfl rfl ?_)
                  refine gl_cons (gs_val (val_load1 kag3 rfl ((hown22.look (by repeat (first | exact .here | exact .headR | exact .app | refine .tail ?_ | refine .appr ?_))).elem hq) rfl) rfl rfl rfl ?_)
                  refine gl_cons (gs_val (val_assign rfl) rfl rfl rfl ?_)
                  refine gl_nil ?_
                  refine gk_seq ?_
                  refine gc_seq ?_
                  refine gc_region ?_
                  refine gl_cons (gs_val (val_move rfl) rfl rfl rfl ?_)
                  refine gl_cons (gs_val (val_move rfl) rfl rfl rfl ?_)
                  refine gl_cons (gs_val (val_eql rfl rfl) rfl rfl rfl ?_)
                  refine gl_nil ?_
                  refine gk_seq ?_
                  refine gc_if rfl (fun h58 => ?_) (fun h58 => ?_)
                  · have h58' : (orderI m g)[q] = k := by omega
                    refine gc_region ?_
                    refine gl_cons (gs_val (val_move rfl) rfl rfl rfl ?_)
                    refine gl_cons (gs_val (val_addI rfl rfl (by omega)) rfl rfl rfl ?_)
                    refine gl_cons (gs_val (val_assign rfl) rfl rfl rfl ?_)
                    refine gl_nil ?_
                    refine gk_block ?_
                    refine gk_seq ?_
                    refine gc_region ?_
                    refine gl_cons (gs_val (val_addI rfl rfl (by omega)) rfl rfl rfl ?_)
                    refine gl_cons (gs_val (val_move rfl) rfl rfl rfl ?_)
                    refine gl_nil ?_
                    refine gk_again (q + 1) ?_ ?_ ?_ ?_
                    · show q + 1 ≤ (orderI m g).length; omega
                    · show (orderI m g).length - (q + 1) < (orderI m g).length - q; omega
                    · refine .cons (by first | exact congrArg (fun z : Nat => some (I64 (z : Int))) (take_no (orderI m g) q k hq h58').symm | exact congrArg (fun z : Nat => some (I64 (z : Int))) (take_yes (orderI m g) q k hq h58').symm) ?_; repeat (first | exact .nil | refine .cons rfl ?_)
                    · exact fun _ h => h
                  · have h58' : ¬ (orderI m g)[q] = k := by omega
                    refine gc_skip ?_
                    refine gk_block ?_
                    refine gk_seq ?_
                    refine gc_region ?_
                    refine gl_cons (gs_val (val_addI rfl rfl (by omega)) rfl rfl rfl ?_)
                    refine gl_cons (gs_val (val_move rfl) rfl rfl rfl ?_)
                    refine gl_nil ?_
                    refine gk_again (q + 1) ?_ ?_ ?_ ?_
                    · show q + 1 ≤ (orderI m g).length; omega
                    · show (orderI m g).length - (q + 1) < (orderI m g).length - q; omega
                    · refine .cons (by first | exact congrArg (fun z : Nat => some (I64 (z : Int))) (take_no (orderI m g) q k hq h58').symm | exact congrArg (fun z : Nat => some (I64 (z : Int))) (take_yes (orderI m g) q k hq h58').symm) ?_; repeat (first | exact .nil | refine .cons rfl ?_)
                    · exact fun _ h => h
                · have hc1 : ((orderI m g).take q).count k = 1 := by rw [List.take_of_length_le (by omega)]; exact orderI_count m g hm0 hm1 k hkg h47
                  refine gc_exit ?_
                  refine gk_seq_exit ?_
                  refine gk_loop_exit ?_
                  refine gk_block_exit ?_
                  refine gk_seq ?_
                  refine gc_seq ?_
                  refine gc_region ?_
                  refine gl_cons (gs_val (val_move rfl) rfl rfl rfl ?_)
                  refine gl_cons (gs_val (val_no (val_neq rfl rfl) (fun h => h (by rw [hc1]; rfl))) rfl rfl rfl ?_)
                  refine gl_nil ?_
                  refine gk_seq ?_
                  refine gc_false rfl ?_
                  refine gc_skip ?_
                  refine gk_block ?_
                  refine gk_seq ?_
                  refine gc_region ?_
                  refine gl_cons (gs_val (val_addI rfl rfl (by omega)) rfl rfl rfl ?_)
                  refine gl_cons (gs_val (val_move rfl) rfl rfl rfl ?_)
                  refine gl_nil ?_
                  refine gk_again (k + 1) ?_ ?_ ?_ ?_
                  · show k + 1 ≤ n; omega
                  · show n - (k + 1) < n - k; omega
                  · refine .cons (by first | exact congrArg (fun z : Nat => some (I64 (z : Int))) (cnt_out g k hkg h47).symm | exact congrArg (fun z : Nat => some (I64 (z : Int))) (cnt_in g k hkg h47).symm) ?_; repeat (first | exact .nil | refine .cons rfl ?_)
                  · exact fun _ h => h
          · have e : n = k := by omega
            subst e
            refine gc_exit ?_
            refine gk_seq_exit ?_
            refine gk_loop_exit ?_
            refine gk_block_exit ?_
            refine gk_seq ?_
            refine gc_seq ?_
            refine gc_region ?_
            refine gl_cons (gs_val (val_move rfl) rfl rfl rfl ?_)
            refine gl_cons (gs_val (val_lenSli ksl105 rfl) rfl rfl rfl ?_)
            refine gl_cons (gs_val (val_move rfl) rfl rfl rfl ?_)
            refine gl_cons (gs_val (val_yes (val_eql rfl rfl) (by rw [hlen])) rfl rfl rfl ?_)
            refine gl_cons (gs_val (val_move rfl) rfl rfl rfl ?_)
            refine gl_cons (gs_val (val_move rfl) rfl rfl rfl ?_)
            refine gl_cons (gs_val (val_move rfl) rfl rfl rfl ?_)
            refine gl_cons (gs_val (val_indexSli (m := m.toNat) ksl104 rfl rfl (by omega) (by omega) (sees_row hpre) (by (try simp only [List.length_map, Nat.mul_one, dig_len, inc_len, List.length_append, List.length_cons, List.length_nil, List.length_replicate]); omega)) rfl rfl rfl ?_)
            refine gl_cons (gs_val (val_cast (v := .bool (decide (g[m.toNat] = true))) (val_load1 kag4 rfl ((sees_row hpre).elem hmt) rfl) (congrArg Value.bool Bool.decide_eq_true.symm)) rfl rfl rfl ?_)
            refine gl_cons (gs_val (val_move rfl) rfl rfl rfl ?_)
            refine gx_split 74 rfl (fun h74 => ?_) (fun h74 => ?_)
            · skip
              refine gl_cons (gs_skip rfl rfl rfl ?_)
              refine gl_cons (gs_skip rfl rfl rfl ?_)
              refine gl_cons (gs_skip rfl rfl rfl ?_)
              refine gl_cons (gs_skip rfl rfl rfl ?_)
              refine gl_cons (gs_skip rfl rfl rfl ?_)
              refine gl_cons (gs_skip rfl rfl rfl ?_)
              refine gl_cons (gs_skip rfl rfl rfl ?_)
              refine gl_cons (gs_val (val_pick_t rfl rfl) rfl rfl rfl ?_)
              refine gl_cons (gs_val (val_pick_t rfl rfl) rfl rfl rfl ?_)
              refine gl_cons (gs_val (val_assign rfl) rfl rfl rfl ?_)
              refine gl_nil ?_
              refine gk_seq ?_
              refine gc_ret ?_
              refine gk_ret rfl (resv_tmp rfl .nil) (List.nil_sublist _) ?_
              exact ⟨rfl, rfl⟩
            · obtain ⟨lo, hlo⟩ := orderI_last m g hm0 hmt h74
              have hll : (orderI m g).length = lo.length + 1 := by rw [hlo]; simp
              have hlast := last_get hlo (by omega)
              have hcb := cntN_le g n
              refine gl_cons (gs_val (val_move rfl) rfl rfl rfl ?_)
              refine gl_cons (gs_val (val_move rfl) rfl rfl rfl ?_)
              refine gl_cons (gs_val (val_subI rfl rfl (by omega)) rfl rfl rfl ?_)
              refine gl_cons (gs_val (val_indexSli (m := (orderI m g).length - 1) ksl105 rfl rfl (by omega) (by omega) (hown22.look (by repeat (first | exact .here | exact .headR | exact .app | refine .tail ?_ | refine .appr ?_))) (by (try simp only [List.length_map, Nat.mul_one, dig_len, inc_len, List.length_append, List.length_cons, List.length_nil, List.length_replicate]); omega)) rfl rfl rfl ?_)
              refine gl_cons (gs_val (val_load1 kag3 rfl ((hown22.look (by repeat (first | exact .here | exact .headR | exact .app | refine .tail ?_ | refine .appr ?_))).elem (by omega : (orderI m g).length - 1 < (orderI m g).length)) rfl) rfl rfl rfl ?_)
              refine gl_cons (gs_val (val_move rfl) rfl rfl rfl ?_)
              refine gl_cons (gs_val (val_yes (val_eql rfl rfl) (by rw [hlast]; omega)) rfl rfl rfl ?_)
              refine gl_cons (gs_val (val_pick_f rfl rfl) rfl rfl rfl ?_)
              refine gl_cons (gs_val (val_pick_t rfl rfl) rfl rfl rfl ?_)
              refine gl_cons (gs_val (val_assign rfl) rfl rfl rfl ?_)
              refine gl_nil ?_
              refine gk_seq ?_
              refine gc_ret ?_
              refine gk_ret rfl (resv_tmp rfl .nil) (List.nil_sublist _) ?_
              exact ⟨rfl, rfl⟩

/-- baize/baizelaw18.ChanceThrows -/
theorem chanceThrows_walk (m v : Int) (ba : Option Addr) (n cap : Nat) (l : List (BitVec 64)) (hn : l.length = n) : Pure Try.prog 28 ([I64 m, I64 v, .slice ba n cap]).toArray (fun w => Row w [] ba (l.flatMap digL)) (.bool true) := by
  refine spec_walk (n := 84) Try.func28 rfl rfl rfl (fun w0 hpre => ?_)
  refine gc_seq ?_
  refine gc_region ?_
  refine gl_cons (gs_val (val_assign rfl) rfl rfl rfl ?_)
  refine gl_nil ?_
  refine gk_seq ?_
  refine gc_seq ?_
  refine gc_seq ?_
  refine gc_region ?_
  refine gl_cons (gs_pure (enters kcall85 .nil) (known18_spec) rfl rfl rfl (fun _ _ => trivial) ?_)
  refine gl_cons (gs_val (val_not rfl) rfl rfl rfl ?_)
  refine gl_cons (gs_val (val_move rfl) rfl rfl rfl ?_)
  refine gl_cons (gs_val (val_move rfl) rfl rfl rfl ?_)
  refine gl_cons (gs_val (val_lenSli ksl42 rfl) rfl rfl rfl ?_)
  refine gl_cons (gs_val (val_gtr rfl rfl) rfl rfl rfl ?_)
  refine gl_cons (gs_val (val_pick_f rfl rfl) rfl rfl rfl ?_)
  refine gl_nil ?_
  refine gk_seq ?_
  refine gc_if rfl (fun h21 => ?_) (fun h21 => ?_)
  · skip
    refine gc_seq ?_
    refine gc_region ?_
    refine gl_cons (gs_pure (enters kcall85 .nil) (known18_spec) rfl rfl rfl (fun _ _ => trivial) ?_)
    refine gl_cons (gs_val (val_assign rfl) rfl rfl rfl ?_)
    refine gl_nil ?_
    refine gk_seq ?_
    refine gc_ret ?_
    refine gk_seq_ret ?_
    refine gk_ret rfl (resv_tmp rfl .nil) (List.nil_sublist _) ?_
    exact ⟨rfl, rfl⟩
  · have hn20 : n ≤ 20 := by omega
    refine gc_skip ?_
    refine gk_seq ?_
    refine gc_seq ?_
    refine gc_region ?_
    refine gl_cons (gs_val (val_move rfl) rfl rfl rfl ?_)
    refine gl_cons (gs_val (val_move rfl) rfl rfl rfl ?_)
    refine gl_cons (gs_makes (enters kcall90 (.cons rfl .nil)) (of18_spec ba n cap l hn (by omega)) rfl rfl rfl (row_of_sees (sees_row hpre)) (fun ⟨ba26, c26, N26⟩ h26 => ?_))
    refine gx_perm (M := N26) (by show List.Perm (N26 ++ []) _; rw [List.append_nil]) ?_
    have own26 : Own 24 8 ba26 n c26 (l.flatMap digL) N26 := h26
    have own26c := own26.cap
    refine gl_cons (gs_pure (enters kcall89 (.cons rfl (.cons rfl .nil))) (cThrow_spec ba26 n c26 l hn (by omega) m) rfl rfl rfl (row_of_sees (own26.look (by repeat (first | exact .here | exact .headR | exact .app | refine .tail ?_ | refine .appr ?_)))) ?_)
    refine gl_cons (gs_val (val_move rfl) rfl rfl rfl ?_)
    refine gl_cons (gs_val (val_extract rfl rfl) rfl rfl rfl ?_)
    refine gl_cons (gs_val (val_extract rfl rfl) rfl rfl rfl ?_)
    refine gl_cons (gs_val (val_assign rfl) rfl rfl rfl ?_)
    refine gl_cons (gs_val (val_assign rfl) rfl rfl rfl ?_)
    refine gl_nil ?_
    refine gk_seq ?_
    refine gc_seq ?_
    refine gc_region ?_
    refine gl_cons (gs_val (val_move rfl) rfl rfl rfl ?_)
    refine gl_cons (gs_val (val_move rfl) rfl rfl rfl ?_)
    refine gl_cons (gs_pure (enters kcall91 (.cons rfl (.cons rfl .nil))) (rThrow_spec ba n cap l hn (by omega) m) rfl rfl rfl (row_of_sees (sees_row hpre)) ?_)
    refine gl_cons (gs_val (val_move rfl) rfl rfl rfl ?_)
    refine gl_cons (gs_val (val_extract rfl rfl) rfl rfl rfl ?_)
    refine gl_cons (gs_val (val_extract rfl rfl) rfl rfl rfl ?_)
    refine gl_cons (gs_val (val_assign rfl) rfl rfl rfl ?_)
    refine gl_cons (gs_val (val_assign rfl) rfl rfl rfl ?_)
    refine gl_nil ?_
    refine gk_seq ?_
    refine gc_seq ?_
    refine gc_seq ?_
    refine gc_region ?_
    refine gl_cons (gs_val (val_move rfl) rfl rfl rfl ?_)
    refine gl_cons (gs_val (val_move rfl) rfl rfl rfl ?_)
    refine gl_cons (gs_val (val_no (val_neq rfl rfl) (fun h => h rfl)) rfl rfl rfl ?_)
    refine gl_cons (gs_val (val_move rfl) rfl rfl rfl ?_)
    refine gl_cons (gs_val (val_move rfl) rfl rfl rfl ?_)
    refine gl_cons (gs_val (val_move rfl) rfl rfl rfl ?_)
    refine gl_cons (gs_val (val_no (val_neq rfl rfl) (fun h => h rfl)) rfl rfl rfl ?_)
    refine gl_cons (gs_val (val_pick_f rfl rfl) rfl rfl rfl ?_)
    refine gl_nil ?_
    refine gk_seq ?_
    refine gc_false rfl ?_
    refine gc_skip ?_
    refine gk_seq ?_
    refine gc_seq ?_
    refine gc_region ?_
    refine gl_cons (gs_val (val_move rfl) rfl rfl rfl ?_)
    refine gl_cons (gs_val (val_move rfl) rfl rfl rfl ?_)
    refine gl_cons (gs_val (val_move rfl) rfl rfl rfl ?_)
    refine gl_cons (gs_makes (enters kcall90 (.cons rfl .nil)) (of18_spec ba n cap l hn (by omega)) rfl rfl rfl (row_of_sees (sees_row hpre)) (fun ⟨ba48, c48, N48⟩ h48 => ?_))
    refine gl_cons (gs_pure (enters kcall92 (.cons rfl (.cons rfl (.cons rfl .nil)))) (cNeeded_spec ba48 n c48 l hn (by omega) m v) rfl rfl rfl (row_of_sees (h48.look (by repeat (first | exact .here | exact .headR | exact .app | refine .tail ?_ | refine .appr ?_)))) ?_)
    refine gl_cons (gs_val (val_move rfl) rfl rfl rfl ?_)
    refine gl_cons (gs_val (val_extract rfl rfl) rfl rfl rfl ?_)
    refine gl_cons (gs_val (val_extract rfl rfl) rfl rfl rfl ?_)
    refine gl_cons (gs_val (val_assign rfl) rfl rfl rfl ?_)
    refine gl_cons (gs_val (val_assign rfl) rfl rfl rfl ?_)
    refine gl_nil ?_
    refine gk_seq ?_
    refine gc_seq ?_
    refine gc_seq ?_
    refine gc_region ?_
    refine gl_cons (gs_val (val_move rfl) rfl rfl rfl ?_)
    refine gl_cons (gs_val (val_gtr rfl rfl) rfl rfl rfl ?_)
    refine gl_cons (gs_val (val_move rfl) rfl rfl rfl ?_)
    refine gx_split 54 rfl (fun h54 => ?_) (fun h54 => ?_)
    · skip
      refine gl_cons (gs_val (val_move rfl) rfl rfl rfl ?_)
      refine gl_cons (gs_val (val_leq rfl rfl) rfl rfl rfl ?_)
      refine gl_cons (gs_val (val_pick_t rfl rfl) rfl rfl rfl ?_)
      refine gl_cons (gs_val (val_move rfl) rfl rfl rfl ?_)
      refine gx_split 58 rfl (fun h58 => ?_) (fun h58 => ?_)
      · skip
        refine gl_cons (gs_val (val_move rfl) rfl rfl rfl ?_)
        refine gl_cons (gs_val (val_geq rfl rfl) rfl rfl rfl ?_)
        refine gl_cons (gs_val (val_pick_t rfl rfl) rfl rfl rfl ?_)
        refine gl_cons (gs_val (val_move rfl) rfl rfl rfl ?_)
        refine gx_split 62 rfl (fun h62 => ?_) (fun h62 => ?_)
        · skip
          refine gl_cons (gs_val (val_move rfl) rfl rfl rfl ?_)
          refine gl_cons (gs_val (val_move rfl) rfl rfl rfl ?_)
          refine gl_cons (gs_val (val_leq rfl rfl) rfl rfl rfl ?_)
          refine gl_cons (gs_val (val_pick_t rfl rfl) rfl rfl rfl ?_)
          refine gl_nil ?_
          refine gk_seq ?_
          refine gc_if rfl (fun h66 => ?_) (fun h66 => ?_)
          · skip
            refine gc_seq ?_
            refine gc_region ?_
            refine gl_cons (gs_val (val_move rfl) rfl rfl rfl ?_)
            refine gl_cons (gs_val (val_yes (val_eql rfl rfl) (if_pos ⟨⟨by omega, h58⟩, h62, h66⟩)) rfl rfl rfl ?_)
            refine gl_cons (gs_val (val_assign rfl) rfl rfl rfl ?_)
            refine gl_nil ?_
            refine gk_seq ?_
            refine gc_ret ?_
            refine gk_seq_ret ?_
            refine gk_ret rfl (resv_tmp rfl .nil) (List.nil_sublist _) ?_
            exact ⟨rfl, rfl⟩
          · skip
            refine gc_skip ?_
            refine gk_seq ?_
            refine gc_seq ?_
            refine gc_region ?_
            refine gl_cons (gs_val (val_move rfl) rfl rfl rfl ?_)
            refine gl_cons (gs_val (val_move rfl) rfl rfl rfl ?_)
            refine gl_cons (gs_val (val_move rfl) rfl rfl rfl ?_)
            refine gl_cons (gs_pure (enters kcall93 (.cons rfl (.cons rfl (.cons rfl .nil)))) (rNeeded_spec ba n cap l hn (by omega) m v) rfl rfl rfl (row_of_sees (sees_row hpre)) ?_)
            refine gl_cons (gs_val (val_move rfl) rfl rfl rfl ?_)
            refine gl_cons (gs_val (val_extract rfl rfl) rfl rfl rfl ?_)
            refine gl_cons (gs_val (val_extract rfl rfl) rfl rfl rfl ?_)
            refine gl_cons (gs_val (val_assign rfl) rfl rfl rfl ?_)
            refine gl_cons (gs_val (val_assign rfl) rfl rfl rfl ?_)
            refine gl_nil ?_
            refine gk_seq ?_
            refine gc_seq ?_
            refine gc_region ?_
            refine gl_cons (gs_val (val_move rfl) rfl rfl rfl ?_)
            refine gl_cons (gs_val (val_move rfl) rfl rfl rfl ?_)
            refine gl_cons (gs_val (val_yes (val_eq64 rfl rfl rfl rfl) rfl) rfl rfl rfl ?_)
            refine gl_cons (gs_val (val_move rfl) rfl rfl rfl ?_)
            refine gl_cons (gs_val (val_move rfl) rfl rfl rfl ?_)
            refine gl_cons (gs_val (val_move rfl) rfl rfl rfl ?_)
            refine gl_cons (gs_val (val_yes (val_eql rfl rfl) rfl) rfl rfl rfl ?_)
            refine gl_cons (gs_val (val_pick_t rfl rfl) rfl rfl rfl ?_)
            refine gl_cons (gs_val (val_assign rfl) rfl rfl rfl ?_)
            refine gl_nil ?_
            refine gk_seq ?_
            refine gc_ret ?_
            refine gk_ret rfl (resv_tmp rfl .nil) (List.nil_sublist _) ?_
            exact ⟨rfl, rfl⟩
        · skip
          refine gl_cons (gs_skip rfl rfl rfl ?_)
          refine gl_cons (gs_skip rfl rfl rfl ?_)
          refine gl_cons (gs_skip rfl rfl rfl ?_)
          refine gl_cons (gs_val (val_pick_f rfl rfl) rfl rfl rfl ?_)
          refine gl_nil ?_
          refine gk_seq ?_
          refine gc_false rfl ?_
          refine gc_skip ?_
          refine gk_seq ?_
          refine gc_seq ?_
          refine gc_region ?_
          refine gl_cons (gs_val (val_move rfl) rfl rfl rfl ?_)
          refine gl_cons (gs_val (val_move rfl) rfl rfl rfl ?_)
          refine gl_cons (gs_val (val_move rfl) rfl rfl rfl ?_)
          refine gl_cons (gs_pure (enters kcall93 (.cons rfl (.cons rfl (.cons rfl .nil)))) (rNeeded_spec ba n cap l hn (by omega) m v) rfl rfl rfl (row_of_sees (sees_row hpre)) ?_)
          refine gl_cons (gs_val (val_move rfl) rfl rfl rfl ?_)
          refine gl_cons (gs_val (val_extract rfl rfl) rfl rfl rfl ?_)
          refine gl_cons (gs_val (val_extract rfl rfl) rfl rfl rfl ?_)
          refine gl_cons (gs_val (val_assign rfl) rfl rfl rfl ?_)
          refine gl_cons (gs_val (val_assign rfl) rfl rfl rfl ?_)
          refine gl_nil ?_
          refine gk_seq ?_
          refine gc_seq ?_
          refine gc_region ?_
          refine gl_cons (gs_val (val_move rfl) rfl rfl rfl ?_)
          refine gl_cons (gs_val (val_move rfl) rfl rfl rfl ?_)
          refine gl_cons (gs_val (val_yes (val_eq64 rfl rfl rfl rfl) rfl) rfl rfl rfl ?_)
          refine gl_cons (gs_val (val_move rfl) rfl rfl rfl ?_)
          refine gl_cons (gs_val (val_move rfl) rfl rfl rfl ?_)
          refine gl_cons (gs_val (val_move rfl) rfl rfl rfl ?_)
          refine gl_cons (gs_val (val_yes (val_eql rfl rfl) rfl) rfl rfl rfl ?_)
          refine gl_cons (gs_val (val_pick_t rfl rfl) rfl rfl rfl ?_)
          refine gl_cons (gs_val (val_assign rfl) rfl rfl rfl ?_)
          refine gl_nil ?_
          refine gk_seq ?_
          refine gc_ret ?_
          refine gk_ret rfl (resv_tmp rfl .nil) (List.nil_sublist _) ?_
          exact ⟨rfl, rfl⟩
      · skip
        refine gl_cons (gs_skip rfl rfl rfl ?_)
        refine gl_cons (gs_skip rfl rfl rfl ?_)
        refine gl_cons (gs_val (val_pick_f rfl rfl) rfl rfl rfl ?_)
        refine gl_cons (gs_val (val_move rfl) rfl rfl rfl ?_)
        refine gl_cons (gs_skip rfl rfl rfl ?_)
        refine gl_cons (gs_skip rfl rfl rfl ?_)
        refine gl_cons (gs_skip rfl rfl rfl ?_)
        refine gl_cons (gs_val (val_pick_f rfl rfl) rfl rfl rfl ?_)
        refine gl_nil ?_
        refine gk_seq ?_
        refine gc_false rfl ?_
        refine gc_skip ?_
        refine gk_seq ?_
        refine gc_seq ?_
        refine gc_region ?_
        refine gl_cons (gs_val (val_move rfl) rfl rfl rfl ?_)
        refine gl_cons (gs_val (val_move rfl) rfl rfl rfl ?_)
        refine gl_cons (gs_val (val_move rfl) rfl rfl rfl ?_)
        refine gl_cons (gs_pure (enters kcall93 (.cons rfl (.cons rfl (.cons rfl .nil)))) (rNeeded_spec ba n cap l hn (by omega) m v) rfl rfl rfl (row_of_sees (sees_row hpre)) ?_)
        refine gl_cons (gs_val (val_move rfl) rfl rfl rfl ?_)
        refine gl_cons (gs_val (val_extract rfl rfl) rfl rfl rfl ?_)
        refine gl_cons (gs_val (val_extract rfl rfl) rfl rfl rfl ?_)
        refine gl_cons (gs_val (val_assign rfl) rfl rfl rfl ?_)
        refine gl_cons (gs_val (val_assign rfl) rfl rfl rfl ?_)
        refine gl_nil ?_
        refine gk_seq ?_
        refine gc_seq ?_
        refine gc_region ?_
        refine gl_cons (gs_val (val_move rfl) rfl rfl rfl ?_)
        refine gl_cons (gs_val (val_move rfl) rfl rfl rfl ?_)
        refine gl_cons (gs_val (val_yes (val_eq64 rfl rfl rfl rfl) rfl) rfl rfl rfl ?_)
        refine gl_cons (gs_val (val_move rfl) rfl rfl rfl ?_)
        refine gl_cons (gs_val (val_move rfl) rfl rfl rfl ?_)
        refine gl_cons (gs_val (val_move rfl) rfl rfl rfl ?_)
        refine gl_cons (gs_val (val_yes (val_eql rfl rfl) rfl) rfl rfl rfl ?_)
        refine gl_cons (gs_val (val_pick_t rfl rfl) rfl rfl rfl ?_)
        refine gl_cons (gs_val (val_assign rfl) rfl rfl rfl ?_)
        refine gl_nil ?_
        refine gk_seq ?_
        refine gc_ret ?_
        refine gk_ret rfl (resv_tmp rfl .nil) (List.nil_sublist _) ?_
        exact ⟨rfl, rfl⟩
    · skip
      refine gl_cons (gs_skip rfl rfl rfl ?_)
      refine gl_cons (gs_skip rfl rfl rfl ?_)
      refine gl_cons (gs_val (val_pick_f rfl rfl) rfl rfl rfl ?_)
      refine gl_cons (gs_val (val_move rfl) rfl rfl rfl ?_)
      refine gl_cons (gs_skip rfl rfl rfl ?_)
      refine gl_cons (gs_skip rfl rfl rfl ?_)
      refine gl_cons (gs_val (val_pick_f rfl rfl) rfl rfl rfl ?_)
      refine gl_cons (gs_val (val_move rfl) rfl rfl rfl ?_)
      refine gl_cons (gs_skip rfl rfl rfl ?_)
      refine gl_cons (gs_skip rfl rfl rfl ?_)
      refine gl_cons (gs_skip rfl rfl rfl ?_)
      refine gl_cons (gs_val (val_pick_f rfl rfl) rfl rfl rfl ?_)
      refine gl_nil ?_
      refine gk_seq ?_
      refine gc_false rfl ?_
      refine gc_skip ?_
      refine gk_seq ?_
      refine gc_seq ?_
      refine gc_region ?_
      refine gl_cons (gs_val (val_move rfl) rfl rfl rfl ?_)
      refine gl_cons (gs_val (val_move rfl) rfl rfl rfl ?_)
      refine gl_cons (gs_val (val_move rfl) rfl rfl rfl ?_)
      refine gl_cons (gs_pure (enters kcall93 (.cons rfl (.cons rfl (.cons rfl .nil)))) (rNeeded_spec ba n cap l hn (by omega) m v) rfl rfl rfl (row_of_sees (sees_row hpre)) ?_)
      refine gl_cons (gs_val (val_move rfl) rfl rfl rfl ?_)
      refine gl_cons (gs_val (val_extract rfl rfl) rfl rfl rfl ?_)
      refine gl_cons (gs_val (val_extract rfl rfl) rfl rfl rfl ?_)
      refine gl_cons (gs_val (val_assign rfl) rfl rfl rfl ?_)
      refine gl_cons (gs_val (val_assign rfl) rfl rfl rfl ?_)
      refine gl_nil ?_
      refine gk_seq ?_
      refine gc_seq ?_
      refine gc_region ?_
      refine gl_cons (gs_val (val_move rfl) rfl rfl rfl ?_)
      refine gl_cons (gs_val (val_move rfl) rfl rfl rfl ?_)
      refine gl_cons (gs_val (val_yes (val_eq64 rfl rfl rfl rfl) rfl) rfl rfl rfl ?_)
      refine gl_cons (gs_val (val_move rfl) rfl rfl rfl ?_)
      refine gl_cons (gs_val (val_move rfl) rfl rfl rfl ?_)
      refine gl_cons (gs_val (val_move rfl) rfl rfl rfl ?_)
      refine gl_cons (gs_val (val_yes (val_eql rfl rfl) rfl) rfl rfl rfl ?_)
      refine gl_cons (gs_val (val_pick_t rfl rfl) rfl rfl rfl ?_)
      refine gl_cons (gs_val (val_assign rfl) rfl rfl rfl ?_)
      refine gl_nil ?_
      refine gk_seq ?_
      refine gc_ret ?_
      refine gk_ret rfl (resv_tmp rfl .nil) (List.nil_sublist _) ?_
      exact ⟨rfl, rfl⟩

/-- baize/baizelaw18.ChanceSwing -/
theorem chanceSwing_walk (sd wt : Int) (ba : Option Addr) (n cap : Nat) (l : List (BitVec 64)) (at' : UInt8) (hn : l.length = n) (h1 : 0 ≤ sd) (h2 : sd ≤ 4294967295) (h3 : 0 ≤ wt) (h4 : wt ≤ 4294967295) : Pure Try.prog 29 ([.int .u32 sd, .int .u32 wt, .slice ba n cap, U8 at']).toArray (fun w => Row w [] ba (l.flatMap digL)) (.bool true) := by
  obtain ⟨p, hp, hp0, hp1⟩ : ∃ p : Int, 1 + sd % 2147483647 = p ∧ 1 ≤ p ∧ p ≤ 2147483647 := ⟨_, rfl, by omega, by omega⟩
  obtain ⟨q, hq, hq0, hq1⟩ := emod_pos wt p hp0
  have ha := at'.toNat_lt
  obtain ⟨k, hk, hkn⟩ := emod_len (at'.toNat : Int) n
  have hsd : Sides p := ⟨hp0, hp1⟩
  have htk : (l.take k).length = k := by rw [List.length_take]; omega
  have hdk : (l.drop k).length = n - k := by rw [List.length_drop, hn]
  have hwp : 0 ≤ wt % p ∧ wt % p < p := ⟨Int.emod_nonneg _ (by omega), Int.emod_lt_of_pos _ (by omega)⟩
  refine spec_walk (n := 78) Try.func29 rfl rfl rfl (fun w0 hpre => ?_)
  refine gc_seq ?_
  refine gc_region ?_
  refine gl_cons (gs_val (val_assign rfl) rfl rfl rfl ?_)
  refine gl_nil ?_
  refine gk_seq ?_
  refine gc_seq ?_
  refine gc_seq ?_
  refine gc_region ?_
  refine gl_cons (gs_pure (enters kcall85 .nil) (known18_spec) rfl rfl rfl (fun _ _ => trivial) ?_)
  refine gl_cons (gs_val (val_not rfl) rfl rfl rfl ?_)
  refine gl_cons (gs_val (val_move rfl) rfl rfl rfl ?_)
  refine gl_cons (gs_val (val_move rfl) rfl rfl rfl ?_)
  refine gl_cons (gs_val (val_lenSli ksl42 rfl) rfl rfl rfl ?_)
  refine gl_cons (gs_val (val_gtr rfl rfl) rfl rfl rfl ?_)
  refine gl_cons (gs_val (val_pick_f rfl rfl) rfl rfl rfl ?_)
  refine gl_nil ?_
  refine gk_seq ?_
  refine gc_if rfl (fun h24 => ?_) (fun h24 => ?_)
  · skip
    refine gc_seq ?_
    refine gc_region ?_
    refine gl_cons (gs_pure (enters kcall85 .nil) (known18_spec) rfl rfl rfl (fun _ _ => trivial) ?_)
    refine gl_cons (gs_val (val_assign rfl) rfl rfl rfl ?_)
    refine gl_nil ?_
    refine gk_seq ?_
    refine gc_ret ?_
    refine gk_seq_ret ?_
    refine gk_ret rfl (resv_tmp rfl .nil) (List.nil_sublist _) ?_
    exact ⟨rfl, rfl⟩
  · have hn20 : n ≤ 20 := by omega
    refine gc_skip ?_
    refine gk_seq ?_
    refine gc_seq ?_
    refine gc_region ?_
    refine gl_cons (gs_val (val_move rfl) rfl rfl rfl ?_)
    refine gl_cons (gs_val (val_convI rfl kis81 kun3 (by omega)) rfl rfl rfl ?_)
    refine gl_cons (gs_val (val_remI rfl rfl (by omega)) rfl rfl rfl ?_)
    refine gl_cons (gs_val (val_cast (v := I64 p) (val_addI rfl rfl (by omega)) (congrArg I64 hp)) rfl rfl rfl ?_)
    refine gl_cons (gs_val (val_assign rfl) rfl rfl rfl ?_)
    refine gl_nil ?_
    refine gk_seq ?_
    refine gc_seq ?_
    refine gc_region ?_
    refine gl_cons (gs_val (val_move rfl) rfl rfl rfl ?_)
    refine gl_cons (gs_val (val_convI rfl kis81 kun3 (by omega)) rfl rfl rfl ?_)
    refine gl_cons (gs_val (val_move rfl) rfl rfl rfl ?_)
    refine gl_cons (gs_val (val_remI rfl rfl (by omega)) rfl rfl rfl ?_)
    refine gl_cons (gs_val (val_cast (v := I64 q) (val_addI rfl rfl (by omega)) (congrArg I64 hq)) rfl rfl rfl ?_)
    refine gl_cons (gs_val (val_assign rfl) rfl rfl rfl ?_)
    refine gl_nil ?_
    refine gk_seq ?_
    refine gc_seq ?_
    refine gc_region ?_
    refine gl_cons (gs_val (val_move rfl) rfl rfl rfl ?_)
    refine gl_cons (gs_makes (enters kcall90 (.cons rfl .nil)) (of18_spec ba n cap l hn (by omega)) rfl rfl rfl (row_of_sees (sees_row hpre)) (fun ⟨ba36, c36, N36⟩ h36 => ?_))
    refine gx_perm (M := N36) (by show List.Perm (N36 ++ []) _; rw [List.append_nil]) ?_
    have own36 : Own 24 8 ba36 n c36 (l.flatMap digL) N36 := h36
    have own36c := own36.cap
    refine gl_cons (gs_val (val_assign rfl) rfl rfl rfl ?_)
    refine gl_nil ?_
    refine gk_seq ?_
    refine gc_seq ?_
    refine gc_region ?_
    refine gl_cons (gs_val (val_move rfl) rfl rfl rfl ?_)
    refine gl_cons (gs_val (val_move rfl) rfl rfl rfl ?_)
    refine gl_cons (gs_val (val_move rfl) rfl rfl rfl ?_)
    refine gl_cons (gs_pure (enters kcall92 (.cons rfl (.cons rfl (.cons rfl .nil)))) (cNeeded_ok ba36 n c36 l hn (by omega) p q hsd hq0 hq1) rfl rfl rfl (row_of_sees (own36.look (by repeat (first | exact .here | exact .headR | exact .app | refine .tail ?_ | refine .appr ?_)))) ?_)
    refine gl_cons (gs_val (val_move rfl) rfl rfl rfl ?_)
    refine gl_cons (gs_val (val_extract rfl rfl) rfl rfl rfl ?_)
    refine gl_cons (gs_val (val_extract rfl rfl) rfl rfl rfl ?_)
    refine gl_cons (gs_val (val_assign rfl) rfl rfl rfl ?_)
    refine gl_cons (gs_val (val_assign rfl) rfl rfl rfl ?_)
    refine gl_nil ?_
    refine gk_seq ?_
    refine gc_seq ?_
    refine gc_seq ?_
    refine gc_region ?_
    refine gl_cons (gs_val (val_move rfl) rfl rfl rfl ?_)
    refine gl_cons (gs_val (val_no (val_neq rfl rfl) (fun h => h rfl)) rfl rfl rfl ?_)
    refine gl_nil ?_
    refine gk_seq ?_
    refine gc_false rfl ?_
    refine gc_skip ?_
    refine gk_seq ?_
    refine gc_seq ?_
    refine gc_region ?_
    refine gl_cons (gs_val (val_move rfl) rfl rfl rfl ?_)
    refine gl_cons (gs_val (val_convI rfl kis5 kun3 (by omega)) rfl rfl rfl ?_)
    refine gl_cons (gs_val (val_move rfl) rfl rfl rfl ?_)
    refine gl_cons (gs_val (val_lenSli ksl43 rfl) rfl rfl rfl ?_)
    refine gl_cons (gs_val (val_addI rfl rfl (by omega)) rfl rfl rfl ?_)
    refine gl_cons (gs_val (val_cast (v := I64 (k : Int)) (val_remI rfl rfl (by omega)) (congrArg I64 hk)) rfl rfl rfl ?_)
    refine gl_cons (gs_val (val_assign rfl) rfl rfl rfl ?_)
    refine gl_nil ?_
    refine gk_seq ?_
    refine gc_seq ?_
    refine ga_start (m := 14) (ls := [false, false, false, false, false, false, false, false, false, false, false, false, false, false]) kmixed rfl rfl ?_
    refine ga_take (i := 1) (ls' := [false, true, false, false, false, false, false, false, false, false, false, false, false, false]) rfl (by kernel_rfl) rfl (fun _ _ _ => val_move rfl) rfl rfl rfl ?_
    refine ga_take (i := 2) (ls' := [false, true, true, false, false, false, false, false, false, false, false, false, false, false]) rfl (by kernel_rfl) rfl (fun _ _ _ => val_move rfl) rfl rfl rfl ?_
    refine ga_take (i := 3) (ls' := [false, true, true, true, false, false, false, false, false, false, false, false, false, false]) rfl (by kernel_rfl) rfl (fun _ _ _ => val_sliceH (h := k) ksl43 rfl rfl rfl (Nat.le_trans hkn own36.cap)) rfl rfl rfl ?_
    refine ga_take (i := 5) (ls' := [false, true, true, true, false, true, false, false, false, false, false, false, false, false]) rfl (by kernel_rfl) rfl (fun _ _ _ => val_move rfl) rfl rfl rfl ?_
    refine ga_take (i := 9) (ls' := [false, true, true, true, false, true, false, false, false, true, false, false, false, false]) rfl (by kernel_rfl) rfl (fun _ _ _ => val_move rfl) rfl rfl rfl ?_
    refine ga_take (i := 10) (ls' := [false, true, true, true, false, true, false, false, false, true, true, false, false, false]) rfl (by kernel_rfl) rfl (fun _ _ _ => val_move rfl) rfl rfl rfl ?_
    refine ga_take (i := 11) (ls' := [false, true, true, true, false, true, false, false, false, true, true, true, false, false]) rfl (by kernel_rfl) rfl (fun _ _ _ => val_sliceL (l := k) ksl43 rfl rfl rfl hkn) rfl rfl rfl ?_
    refine ga_branch (rs := [0]) (by kernel_rfl) rfl (.cons (ls' := [true, true, true, true, false, true, false, false, false, true, true, true, false, false]) rfl rfl ?_ .nil)
    refine gs_buildSlice (zs := []) ksl43 kze24 rfl rfl .nil .nil rfl rfl (fun b52 => ?_)
    refine ga_branch (rs := [4]) (by kernel_rfl) rfl (.cons (ls' := [true, true, true, true, true, true, false, false, false, true, true, true, false, false]) rfl rfl ?_ .nil)
    refine gs_append ksl43 kze24 rfl rfl rfl rfl rfl rfl (own_lit (xs := []) rfl) (fun _ => by first | exact .here | exact .headR | exact .app | exact .tail .here | exact .tail .headR | exact .tail .app | exact .tail (.tail .here) | exact .tail (.tail .headR) | exact .tail (.tail .app) | exact .tail (.tail (.tail .here)) | exact .tail (.tail (.tail .headR)) | exact .tail (.tail (.tail .app)) | exact .tail (.tail (.tail (.tail .here))) | exact .tail (.tail (.tail (.tail .headR))) | exact .tail (.tail (.tail (.tail .app))) | exact .tail (.tail (.tail (.tail (.tail .here)))) | exact .tail (.tail (.tail (.tail (.tail .headR)))) | exact .tail (.tail (.tail (.tail (.tail .app)))) | exact .appr .here | exact .appr .headR | exact .appr .app | exact .tail (.appr .here) | exact .tail (.appr .headR) | exact .tail (.appr .app) | exact .tail (.tail (.appr .here)) | exact .tail (.tail (.appr .headR)) | exact .tail (.tail (.appr .app)) | exact .appr (.tail .here) | exact .appr (.tail .headR) | exact .appr (.tail .app) | exact .appr (.tail (.tail .here)) | exact .appr (.tail (.tail .headR)) | exact .appr (.tail (.tail .app)) | exact .appr (.appr .here) | exact .appr (.appr .headR) | exact .appr (.appr .app) | exact .tail (.appr (.appr .here)) | exact .tail (.appr (.appr .headR)) | exact .tail (.appr (.appr .app)) | exact .appr (.appr (.tail .here)) | exact .appr (.appr (.tail .headR)) | exact .appr (.appr (.tail .app)) | exact .appr (.appr (.appr .here)) | exact .appr (.appr (.appr .headR)) | exact .appr (.appr (.appr .app))) (brings_slice ksl43 (((own36.look (by repeat (first | exact .here | exact .headR | exact .app | refine .tail ?_ | refine .appr ?_))).take (k * 8)).cast (flat_take l k)) (by rw [dig_len, htk]) (one_digs _)) (by omega) (fun ba56 c56 N56 hown56 => ?_)
    refine ga_branch (rs := [6]) (by kernel_rfl) rfl (.cons (ls' := [true, true, true, true, true, true, true, false, false, true, true, true, false, false]) rfl rfl ?_ .nil)
    refine gs_pure (enters kcall38 (.cons rfl .nil)) (fromNum_spec _) rfl rfl rfl (fun _ _ => trivial) ?_
    refine ga_branch (rs := [7]) (by kernel_rfl) rfl (.cons (ls' := [true, true, true, true, true, true, true, true, false, true, true, true, false, false]) rfl rfl ?_ .nil)
    refine gs_buildSlice (zs := [.int .u8 0, .int .u8 0, .int .u8 0, .int .u8 0, .int .u8 0, .int .u8 0, .int .u8 0, .int .u8 0]) ksl43 kze24 rfl rfl (.cons rfl .nil) (.cons rfl rfl rfl (by simp) (by first | ((with_reducible refine splice_all _ _ ?_); simp; done) | (simp only [splice, stL, digL, List.take_succ_cons, List.take_zero, List.drop_succ_cons, List.drop_zero, List.length_cons, List.length_nil, Nat.reduceAdd, Nat.reduceMul, Nat.zero_add, Nat.zero_mul, List.cons_append, List.nil_append]; exact rfl)) .nil) rfl rfl (fun b59 => ?_)
    refine ga_branch (rs := [8]) (by kernel_rfl) rfl (.cons (ls' := [true, true, true, true, true, true, true, true, true, true, true, true, false, false]) rfl rfl ?_ .nil)
    refine gs_append ksl43 kze24 rfl rfl rfl rfl rfl rfl (hown56) (fun _ => by first | exact .here | exact .headR | exact .app | exact .tail .here | exact .tail .headR | exact .tail .app | exact .tail (.tail .here) | exact .tail (.tail .headR) | exact .tail (.tail .app) | exact .tail (.tail (.tail .here)) | exact .tail (.tail (.tail .headR)) | exact .tail (.tail (.tail .app)) | exact .tail (.tail (.tail (.tail .here))) | exact .tail (.tail (.tail (.tail .headR))) | exact .tail (.tail (.tail (.tail .app))) | exact .tail (.tail (.tail (.tail (.tail .here)))) | exact .tail (.tail (.tail (.tail (.tail .headR)))) | exact .tail (.tail (.tail (.tail (.tail .app)))) | exact .appr .here | exact .appr .headR | exact .appr .app | exact .tail (.appr .here) | exact .tail (.appr .headR) | exact .tail (.appr .app) | exact .tail (.tail (.appr .here)) | exact .tail (.tail (.appr .headR)) | exact .tail (.tail (.appr .app)) | exact .appr (.tail .here) | exact .appr (.tail .headR) | exact .appr (.tail .app) | exact .appr (.tail (.tail .here)) | exact .appr (.tail (.tail .headR)) | exact .appr (.tail (.tail .app)) | exact .appr (.appr .here) | exact .appr (.appr .headR) | exact .appr (.appr .app) | exact .tail (.appr (.appr .here)) | exact .tail (.appr (.appr .headR)) | exact .tail (.appr (.appr .app)) | exact .appr (.appr (.tail .here)) | exact .appr (.appr (.tail .headR)) | exact .appr (.appr (.tail .app)) | exact .appr (.appr (.appr .here)) | exact .appr (.appr (.appr .headR)) | exact .appr (.appr (.appr .app))) (brings_slice ksl43 (sees_all (by repeat (first | exact .head _ | refine .tail _ ?_ | refine List.mem_append_right _ ?_))) rfl (one_dig _)) (by omega) (fun ba60 c60 N60 hown60 => ?_)
    refine ga_branch (rs := [12]) (by kernel_rfl) rfl (.cons (ls' := [true, true, true, true, true, true, true, true, true, true, true, true, true, false]) rfl rfl ?_ .nil)
    refine gs_append ksl43 kze24 rfl rfl rfl rfl rfl rfl (hown60) (fun _ => by first | exact .here | exact .headR | exact .app | exact .tail .here | exact .tail .headR | exact .tail .app | exact .tail (.tail .here) | exact .tail (.tail .headR) | exact .tail (.tail .app) | exact .tail (.tail (.tail .here)) | exact .tail (.tail (.tail .headR)) | exact .tail (.tail (.tail .app)) | exact .tail (.tail (.tail (.tail .here))) | exact .tail (.tail (.tail (.tail .headR))) | exact .tail (.tail (.tail (.tail .app))) | exact .tail (.tail (.tail (.tail (.tail .here)))) | exact .tail (.tail (.tail (.tail (.tail .headR)))) | exact .tail (.tail (.tail (.tail (.tail .app)))) | exact .appr .here | exact .appr .headR | exact .appr .app | exact .tail (.appr .here) | exact .tail (.appr .headR) | exact .tail (.appr .app) | exact .tail (.tail (.appr .here)) | exact .tail (.tail (.appr .headR)) | exact .tail (.tail (.appr .app)) | exact .appr (.tail .here) | exact .appr (.tail .headR) | exact .appr (.tail .app) | exact .appr (.tail (.tail .here)) | exact .appr (.tail (.tail .headR)) | exact .appr (.tail (.tail .app)) | exact .appr (.appr .here) | exact .appr (.appr .headR) | exact .appr (.appr .app) | exact .tail (.appr (.appr .here)) | exact .tail (.appr (.appr .headR)) | exact .tail (.appr (.appr .app)) | exact .appr (.appr (.tail .here)) | exact .appr (.appr (.tail .headR)) | exact .appr (.appr (.tail .app)) | exact .appr (.appr (.appr .here)) | exact .appr (.appr (.appr .headR)) | exact .appr (.appr (.appr .app))) (brings_slice ksl43 (((own36.look (by repeat (first | exact .here | exact .headR | exact .app | refine .tail ?_ | refine .appr ?_))).sl (cap := c36) (l := k) (size := 8) (by rw [dig_len, hn]; have := own36.cap; omega)).cast (flat_drop l k)) (by rw [dig_len, hdk]) (one_digs _)) (by omega) (fun ba64 c64 N64 hown64 => ?_)
    refine ga_take (i := 13) (ls' := [true, true, true, true, true, true, true, true, true, true, true, true, true, true]) rfl (by kernel_rfl) rfl (fun _ _ _ => val_assign rfl) rfl rfl rfl ?_
    refine ga_done (by kernel_rfl) ?_
    refine gk_seq ?_
    refine gc_seq ?_
    refine gc_region ?_
    refine gl_cons (gs_val (val_move rfl) rfl rfl rfl ?_)
    refine gl_cons (gs_val (val_move rfl) rfl rfl rfl ?_)
    refine gl_cons (gs_pure (enters kcall89 (.cons rfl (.cons rfl .nil))) (cThrow_ok ba64 (0 + k + 1 + (n - k)) c64 (l.take k ++ [(needB p q (sumB l))] ++ l.drop k) (by simp; omega) (by omega) p hsd) rfl rfl rfl (row_of_sees ((hown64.look (by repeat (first | exact .here | exact .headR | exact .app | refine .tail ?_ | refine .appr ?_))).cast (by simp [List.flatMap_append]))) ?_)
    refine gl_cons (gs_val (val_move rfl) rfl rfl rfl ?_)
    refine gl_cons (gs_val (val_extract rfl rfl) rfl rfl rfl ?_)
    refine gl_cons (gs_val (val_extract rfl rfl) rfl rfl rfl ?_)
    refine gl_cons (gs_val (val_assign rfl) rfl rfl rfl ?_)
    refine gl_cons (gs_val (val_assign rfl) rfl rfl rfl ?_)
    refine gl_nil ?_
    refine gk_seq ?_
    refine gc_seq ?_
    refine gc_region ?_
    refine gl_cons (gs_val (val_move rfl) rfl rfl rfl ?_)
    refine gl_cons (gs_val (val_yes (val_eql rfl rfl) rfl) rfl rfl rfl ?_)
    refine gl_cons (gs_val (val_move rfl) rfl rfl rfl ?_)
    refine gl_cons (gs_val (val_move rfl) rfl rfl rfl ?_)
    refine gl_cons (gs_val (val_move rfl) rfl rfl rfl ?_)
    refine gl_cons (gs_val (val_yes (val_eql rfl rfl) (by rw [sumB_in]; exact throw_need p q _ hsd hq0 hq1)) rfl rfl rfl ?_)
    refine gl_cons (gs_val (val_pick_t rfl rfl) rfl rfl rfl ?_)
    refine gl_cons (gs_val (val_assign rfl) rfl rfl rfl ?_)
    refine gl_nil ?_
    refine gk_seq ?_
    refine gc_ret ?_
    refine gk_ret rfl (resv_tmp rfl .nil) (List.nil_sublist _) ?_
    exact ⟨rfl, rfl⟩

/-- baize/baizelaw18.ChanceEven -/
theorem chanceEven_walk (sd : UInt8) (f : BitVec 64) (ba : Option Addr) (n cap : Nat) (l : List (BitVec 64)) (hn : l.length = n) : Pure Try.prog 30 ([U8 sd, U64 f, .slice ba n cap]).toArray (fun w => Row w [] ba (l.flatMap digL)) (.bool true) := by
  obtain ⟨p', hp', hp60⟩ := emod_nat (sd.toNat : Int) 60 (by decide)
  obtain ⟨p, hp, hp1, hp2⟩ : ∃ p : Nat, (1 : Int) + (p' : Int) = (p : Int) ∧ 1 ≤ p ∧ p ≤ 60 := ⟨p' + 1, by omega, by omega, by omega⟩
  have hsdl := sd.toNat_lt
  have hsd : Sides (p : Int) := ⟨by omega, by omega⟩
  have hgd := even_guard p hp2
  refine spec_walk (n := 85) Try.func30 rfl rfl rfl (fun w0 hpre => ?_)
  refine gc_seq ?_
  refine gc_region ?_
  refine gl_cons (gs_val (val_assign rfl) rfl rfl rfl ?_)
  refine gl_nil ?_
  refine gk_seq ?_
  refine gc_seq ?_
  refine gc_seq ?_
  refine gc_region ?_
  refine gl_cons (gs_pure (enters kcall85 .nil) (known18_spec) rfl rfl rfl (fun _ _ => trivial) ?_)
  refine gl_cons (gs_val (val_not rfl) rfl rfl rfl ?_)
  refine gl_cons (gs_val (val_move rfl) rfl rfl rfl ?_)
  refine gl_cons (gs_val (val_move rfl) rfl rfl rfl ?_)
  refine gl_cons (gs_val (val_lenSli ksl42 rfl) rfl rfl rfl ?_)
  refine gl_cons (gs_val (val_gtr rfl rfl) rfl rfl rfl ?_)
  refine gl_cons (gs_val (val_pick_f rfl rfl) rfl rfl rfl ?_)
  refine gl_nil ?_
  refine gk_seq ?_
  refine gc_if rfl (fun h22 => ?_) (fun h22 => ?_)
  · skip
    refine gc_seq ?_
    refine gc_region ?_
    refine gl_cons (gs_pure (enters kcall85 .nil) (known18_spec) rfl rfl rfl (fun _ _ => trivial) ?_)
    refine gl_cons (gs_val (val_assign rfl) rfl rfl rfl ?_)
    refine gl_nil ?_
    refine gk_seq ?_
    refine gc_ret ?_
    refine gk_seq_ret ?_
    refine gk_ret rfl (resv_tmp rfl .nil) (List.nil_sublist _) ?_
    exact ⟨rfl, rfl⟩
  · have hn20 : n ≤ 20 := by omega
    refine gc_skip ?_
    refine gk_seq ?_
    refine gc_seq ?_
    refine gc_region ?_
    refine gl_cons (gs_val (val_move rfl) rfl rfl rfl ?_)
    refine gl_cons (gs_val (val_convI rfl kis5 kun3 (by omega)) rfl rfl rfl ?_)
    refine gl_cons (gs_val (val_cast (v := I64 (p' : Int)) (val_remI rfl rfl (by omega)) (congrArg I64 hp')) rfl rfl rfl ?_)
    refine gl_cons (gs_val (val_cast (v := I64 (p : Int)) (val_addI rfl rfl (by omega)) (congrArg I64 hp)) rfl rfl rfl ?_)
    refine gl_cons (gs_val (val_assign rfl) rfl rfl rfl ?_)
    refine gl_nil ?_
    refine gk_seq ?_
    refine gc_seq ?_
    refine gc_region ?_
    refine gl_cons (gs_val (val_move rfl) rfl rfl rfl ?_)
    refine gl_cons (gs_makes (enters kcall90 (.cons rfl .nil)) (of18_spec ba n cap l hn (by omega)) rfl rfl rfl (row_of_sees (sees_row hpre)) (fun ⟨ba29, c29, N29⟩ h29 => ?_))
    refine gx_perm (M := N29) (by show List.Perm (N29 ++ []) _; rw [List.append_nil]) ?_
    have own29 : Own 24 8 ba29 n c29 (l.flatMap digL) N29 := h29
    have own29c := own29.cap
    refine gl_cons (gs_val (val_assign rfl) rfl rfl rfl ?_)
    refine gl_nil ?_
    refine gk_seq ?_
    refine gc_seq ?_
    refine gc_region ?_
    refine gl_cons (gs_val (val_move rfl) rfl rfl rfl ?_)
    refine gl_cons (gs_val (val_assign rfl) rfl rfl rfl ?_)
    refine gl_nil ?_
    refine gk_seq ?_
    refine gc_seq ?_
    refine gc_seq ?_
    refine gc_region ?_
    refine gl_cons (gs_val (val_move rfl) rfl rfl rfl ?_)
    refine gl_cons (gs_val (val_lenSli ksl43 rfl) rfl rfl rfl ?_)
    refine gl_cons (gs_val (val_move rfl) rfl rfl rfl ?_)
    refine gl_nil ?_
    refine gk_seq ?_
    refine gc_block ?_
    refine gc_loop (σ := Nat) (I := fun k => k ≤ l.length) (μ := fun k => l.length - k) (EI := fun k => [(9, U64 (f + sumB (l.take k))), (33, I64 (k : Int)), (1, U64 f), (6, .bool false), (7, I64 (p : Int)), (8, .slice ba29 n c29), (31, .slice ba29 n c29), (32, I64 (n : Int))]) (LI := fun k => N29) 0 ?_ ?_ ?_ ?_
    · exact Nat.zero_le _
    · refine .cons (congrArg (fun x => some (U64 x)) (by show f = f + 0#64; simp)) ?_; repeat (first | exact .nil | refine .cons rfl ?_)
    · exact fun _ h => h
    · intro k hI
      have hI : k ≤ l.length := hI
      refine gc_seq ?_
      refine gc_region ?_
      refine gl_cons (gs_val (val_lss rfl rfl) rfl rfl rfl ?_)
      refine gl_nil ?_
      refine gk_seq ?_
      refine gc_seq ?_
      refine gc_if rfl (fun hk => ?_) (fun hk => ?_)
      · have hk : k < l.length := by omega
        refine gc_skip ?_
        refine gk_seq ?_
        refine gc_seq ?_
        refine gc_block ?_
        refine gc_seq ?_
        refine gc_region ?_
        refine gl_cons (gs_val (val_indexSli ksl43 rfl rfl rfl (by omega) (own29.look (by repeat (first | exact .here | exact .headR | exact .app | refine .tail ?_ | refine .appr ?_))) (by (try simp only [List.length_map, Nat.mul_one, dig_len, inc_len]); omega)) rfl rfl rfl ?_)
        refine gl_cons (gs_val (val_loadA kag24 rfl ((own29.look (by repeat (first | exact .here | exact .headR | exact .app | refine .tail ?_ | refine .appr ?_))).elem8 hk) rfl rfl) rfl rfl rfl ?_)
        refine gl_cons (gs_alloc kze24 rfl rfl rfl (fun b11 => ?_))
        refine gl_cons (gs_store ksz24 rfl rfl rfl rfl rfl rfl (by first | exact .head | exact .tail .head | exact .tail (.tail .head) | exact .tail (.tail (.tail .head)) | exact .tail (.tail (.tail (.tail .head))) | exact .tail (.tail (.tail (.tail (.tail .head))))) (by simp) (by first | ((with_reducible refine splice_all _ _ ?_); simp; done) | (simp only [splice, stL, digL, List.take_succ_cons, List.take_zero, List.drop_succ_cons, List.drop_zero, List.length_cons, List.length_nil, Nat.reduceAdd, Nat.reduceMul, Nat.zero_add, Nat.zero_mul, List.cons_append, List.nil_append]; exact rfl)) ?_)
        refine gl_nil ?_
        refine gk_seq ?_
        refine gc_region ?_
        refine gl_cons (gs_val (val_move rfl) rfl rfl rfl ?_)
        refine gl_cons (gs_val (val_loadA kag24 rfl (sees_mem (by repeat (first | exact .head _ | refine .tail _ ?_ | refine List.mem_append_right _ ?_))) rfl rfl) rfl rfl rfl ?_)
        refine gl_cons (gs_pure (enters kcall36 (.cons rfl .nil)) (num_spec _) rfl rfl rfl (fun _ _ => trivial) ?_)
        refine gl_cons (gs_val (val_add64 rfl rfl rfl rfl) rfl rfl rfl ?_)
        refine gl_cons (gs_val (val_assign rfl) rfl rfl rfl ?_)
        refine gl_nil ?_
        refine gk_block ?_
        refine gk_seq ?_
        refine gc_region ?_
        refine gl_cons (gs_val (val_addI rfl rfl (by omega)) rfl rfl rfl ?_)
        refine gl_cons (gs_val (val_move rfl) rfl rfl rfl ?_)
        refine gl_nil ?_
        refine gk_again (k + 1) ?_ ?_ ?_ ?_
        · show k + 1 ≤ l.length; omega
        · show l.length - (k + 1) < l.length - k; omega
        · refine .cons (congrArg (fun x => some (U64 x)) (sum_front f l k hk)) ?_; repeat (first | exact .nil | refine .cons rfl ?_)
        · exact fun _ h => h.sub (List.sublist_cons_self _ _)
      · have e : n = k := by omega
        subst e
        have hall : l.take n = l := List.take_of_length_le (by omega)
        rw [hall]
        refine gc_exit ?_
        refine gk_seq_exit ?_
        refine gk_loop_exit ?_
        refine gk_block_exit ?_
        refine gk_seq ?_
        refine gc_seq ?_
        refine gc_seq ?_
        refine gc_region ?_
        refine gl_cons (gs_val (val_move rfl) rfl rfl rfl ?_)
        refine gl_cons (gs_val (val_move rfl) rfl rfl rfl ?_)
        refine gl_cons (gs_val (val_conv64 rfl kis3 kun23) rfl rfl rfl ?_)
        refine gl_cons (gs_val (val_sub64 (i := 18446744073709551615#64) rfl rfl rfl rfl) rfl rfl rfl ?_)
        refine gl_cons (gs_val (val_gtr rfl rfl) rfl rfl rfl ?_)
        refine gl_nil ?_
        refine gk_seq ?_
        refine gc_if rfl (fun h46 => ?_) (fun h46 => ?_)
        · skip
          refine gc_seq ?_
          refine gc_region ?_
          refine gl_cons (gs_val (val_assign rfl) rfl rfl rfl ?_)
          refine gl_nil ?_
          refine gk_seq ?_
          refine gc_ret ?_
          refine gk_seq_ret ?_
          refine gk_ret rfl (resv_tmp rfl .nil) (List.nil_sublist _) ?_
          exact ⟨rfl, rfl⟩
        · have hS : (f + sumB l).toNat + p ≤ 18446744073709551615 := by rw [hgd] at h46; omega
          refine gc_skip ?_
          refine gk_seq ?_
          refine gc_seq ?_
          refine gc_region ?_
          refine gl_cons (gs_alloc kze120 rfl rfl rfl (fun b12 => ?_))
          refine gl_nil ?_
          refine gk_seq ?_
          refine gc_seq ?_
          refine gc_seq ?_
          refine gc_region ?_
          refine gl_cons (gs_val (val_move rfl) rfl rfl rfl ?_)
          refine gl_cons (gs_val (val_move rfl) rfl rfl rfl ?_)
          refine gl_nil ?_
          refine gk_seq ?_
          refine gc_block ?_
          refine gc_loop (σ := Nat) (I := fun k => k ≤ p) (μ := fun k => p - k) (EI := fun k => [(48, I64 (k : Int)), (1, U64 f), (7, I64 (p : Int)), (8, .slice ba29 n c29), (12, .pointer (some ⟨b12, 0, none⟩)), (47, I64 (p : Int))]) (LI := fun k => ⟨b12, .cells ((seenL (f + sumB l).toNat p k).map Value.bool).toArray 120 (0, 0)⟩ :: N29) 0 ?_ ?_ ?_ ?_
          · exact Nat.zero_le _
          · exact (.cons rfl (.cons rfl (.cons rfl (.cons rfl (.cons rfl (.cons rfl .nil))))))
          · exact fun _ h => h
          · intro k hI
            have hI : k ≤ p := hI
            refine gc_seq ?_
            refine gc_region ?_
            refine gl_cons (gs_val (val_lss rfl rfl) rfl rfl rfl ?_)
            refine gl_nil ?_
            refine gk_seq ?_
            refine gc_seq ?_
            refine gc_if rfl (fun hk => ?_) (fun hk => ?_)
            · have hk : k < p := by omega
              obtain ⟨t, ht⟩ : ∃ t : Nat, t = 1 + ((f + sumB l).toNat + k) % p := ⟨_, rfl⟩
              have htp : t ≤ p := by have := Nat.mod_lt ((f + sumB l).toNat + k) (show 0 < p by omega); omega
              refine gc_skip ?_
              refine gk_seq ?_
              refine gc_seq ?_
              refine gc_block ?_
              refine gc_seq ?_
              refine gc_region ?_
              refine gl_cons (gs_val (val_move rfl) rfl rfl rfl ?_)
              refine gl_cons (gs_val (val_assign rfl) rfl rfl rfl ?_)
              refine gl_nil ?_
              refine gk_seq ?_
              refine gc_seq ?_
              refine gc_region ?_
              refine gl_cons (gs_val (val_move rfl) rfl rfl rfl ?_)
              refine gl_cons (gs_buildSlice (zs := []) ksl43 kze24 rfl rfl .nil .nil rfl rfl (fun b53 => ?_))
              refine gl_cons (gs_val (val_move rfl) rfl rfl rfl ?_)
              refine gl_cons (gs_append ksl43 kze24 rfl rfl rfl rfl rfl rfl (own_lit (xs := []) rfl) (fun _ => by first | exact .here | exact .headR | exact .app | exact .tail .here | exact .tail .headR | exact .tail .app | exact .tail (.tail .here) | exact .tail (.tail .headR) | exact .tail (.tail .app) | exact .tail (.tail (.tail .here)) | exact .tail (.tail (.tail .headR)) | exact .tail (.tail (.tail .app)) | exact .tail (.tail (.tail (.tail .here))) | exact .tail (.tail (.tail (.tail .headR))) | exact .tail (.tail (.tail (.tail .app))) | exact .tail (.tail (.tail (.tail (.tail .here)))) | exact .tail (.tail (.tail (.tail (.tail .headR)))) | exact .tail (.tail (.tail (.tail (.tail .app)))) | exact .appr .here | exact .appr .headR | exact .appr .app | exact .tail (.appr .here) | exact .tail (.appr .headR) | exact .tail (.appr .app) | exact .tail (.tail (.appr .here)) | exact .tail (.tail (.appr .headR)) | exact .tail (.tail (.appr .app)) | exact .appr (.tail .here) | exact .appr (.tail .headR) | exact .appr (.tail .app) | exact .appr (.tail (.tail .here)) | exact .appr (.tail (.tail .headR)) | exact .appr (.tail (.tail .app)) | exact .appr (.appr .here) | exact .appr (.appr .headR) | exact .appr (.appr .app) | exact .tail (.appr (.appr .here)) | exact .tail (.appr (.appr .headR)) | exact .tail (.appr (.appr .app)) | exact .appr (.appr (.tail .here)) | exact .appr (.appr (.tail .headR)) | exact .appr (.appr (.tail .app)) | exact .appr (.appr (.appr .here)) | exact .appr (.appr (.appr .headR)) | exact .appr (.appr (.appr .app))) (brings_slice ksl43 (own29.look (by repeat (first | exact .here | exact .headR | exact .app | refine .tail ?_ | refine .appr ?_))) (by rw [dig_len, hn]) (one_digs _)) (by omega) (fun ba55 c55 N55 hown55 => ?_))
              refine gl_cons (gs_val (val_move rfl) rfl rfl rfl ?_)
              refine gl_cons (gs_val (val_move rfl) rfl rfl rfl ?_)
              refine gl_cons (gs_val (val_conv64 rfl kis3 kun23) rfl rfl rfl ?_)
              refine gl_cons (gs_val (val_add64 rfl rfl rfl rfl) rfl rfl rfl ?_)
              refine gl_cons (gs_pure (enters kcall38 (.cons rfl .nil)) (fromNum_spec _) rfl rfl rfl (fun _ _ => trivial) ?_)
              refine gl_cons (gs_buildSlice (zs := [.int .u8 0, .int .u8 0, .int .u8 0, .int .u8 0, .int .u8 0, .int .u8 0, .int .u8 0, .int .u8 0]) ksl43 kze24 rfl rfl (.cons rfl .nil) (.cons rfl rfl rfl (by simp) (by first | ((with_reducible refine splice_all _ _ ?_); simp; done) | (simp only [splice, stL, digL, List.take_succ_cons, List.take_zero, List.drop_succ_cons, List.drop_zero, List.length_cons, List.length_nil, Nat.reduceAdd, Nat.reduceMul, Nat.zero_add, Nat.zero_mul, List.cons_append, List.nil_append]; exact rfl)) .nil) rfl rfl (fun b61 => ?_))
              refine gl_cons (gs_append ksl43 kze24 rfl rfl rfl rfl rfl rfl (hown55) (fun _ => by first | exact .here | exact .headR | exact .app | exact .tail .here | exact .tail .headR | exact .tail .app | exact .tail (.tail .here) | exact .tail (.tail .headR) | exact .tail (.tail .app) | exact .tail (.tail (.tail .here)) | exact .tail (.tail (.tail .headR)) | exact .tail (.tail (.tail .app)) | exact .tail (.tail (.tail (.tail .here))) | exact .tail (.tail (.tail (.tail .headR))) | exact .tail (.tail (.tail (.tail .app))) | exact .tail (.tail (.tail (.tail (.tail .here)))) | exact .tail (.tail (.tail (.tail (.tail .headR)))) | exact .tail (.tail (.tail (.tail (.tail .app)))) | exact .appr .here | exact .appr .headR | exact .appr .app | exact .tail (.appr .here) | exact .tail (.appr .headR) | exact .tail (.appr .app) | exact .tail (.tail (.appr .here)) | exact .tail (.tail (.appr .headR)) | exact .tail (.tail (.appr .app)) | exact .appr (.tail .here) | exact .appr (.tail .headR) | exact .appr (.tail .app) | exact .appr (.tail (.tail .here)) | exact .appr (.tail (.tail .headR)) | exact .appr (.tail (.tail .app)) | exact .appr (.appr .here) | exact .appr (.appr .headR) | exact .appr (.appr .app) | exact .tail (.appr (.appr .here)) | exact .tail (.appr (.appr .headR)) | exact .tail (.appr (.appr .app)) | exact .appr (.appr (.tail .here)) | exact .appr (.appr (.tail .headR)) | exact .appr (.appr (.tail .app)) | exact .appr (.appr (.appr .here)) | exact .appr (.appr (.appr .headR)) | exact .appr (.appr (.appr .app))) (brings_slice ksl43 (sees_all (by repeat (first | exact .head _ | refine .tail _ ?_ | refine List.mem_append_right _ ?_))) rfl (one_dig _)) (by omega) (fun ba62 c62 N62 hown62 => ?_))
              refine gl_cons (gs_pure (enters kcall89 (.cons rfl (.cons rfl .nil))) (cThrow_ok ba62 (0 + n + 1) c62 (l ++ [f + BitVec.ofInt 64 (k : Int)]) (by simp; omega) (by omega) (p : Int) hsd) rfl rfl rfl (row_of_sees ((hown62.look (by repeat (first | exact .here | exact .headR | exact .app | refine .tail ?_ | refine .appr ?_))).cast (by simp))) ?_)
              refine gl_cons (gs_val (val_move rfl) rfl rfl rfl ?_)
              refine gl_cons (gs_val (val_cast (v := I64 (t : Int)) (val_extract rfl rfl) (congrArg I64 (ht ▸ even_throw p k f l hp1 hp2 hk hS))) rfl rfl rfl ?_)
              refine gl_cons (gs_val (val_extract rfl rfl) rfl rfl rfl ?_)
              refine gl_cons (gs_val (val_assign rfl) rfl rfl rfl ?_)
              refine gl_cons (gs_val (val_assign rfl) rfl rfl rfl ?_)
              refine gl_nil ?_
              refine gk_seq ?_
              refine gc_seq ?_
              refine gc_seq ?_
              refine gc_region ?_
              refine gl_cons (gs_val (val_move rfl) rfl rfl rfl ?_)
              refine gl_cons (gs_val (val_no (val_neq rfl rfl) (fun h => h rfl)) rfl rfl rfl ?_)
              refine gl_cons (gs_val (val_move rfl) rfl rfl rfl ?_)
              refine gl_cons (gs_val (val_move rfl) rfl rfl rfl ?_)
              refine gl_cons (gs_val (val_no (val_lss rfl rfl) (by omega)) rfl rfl rfl ?_)
              refine gl_cons (gs_val (val_pick_f rfl rfl) rfl rfl rfl ?_)
              refine gl_cons (gs_val (val_move rfl) rfl rfl rfl ?_)
              refine gl_cons (gs_val (val_move rfl) rfl rfl rfl ?_)
              refine gl_cons (gs_val (val_move rfl) rfl rfl rfl ?_)
              refine gl_cons (gs_val (val_no (val_gtr rfl rfl) (by omega)) rfl rfl rfl ?_)
              refine gl_cons (gs_val (val_pick_f rfl rfl) rfl rfl rfl ?_)
              refine gl_cons (gs_val (val_move rfl) rfl rfl rfl ?_)
              refine gl_cons (gs_val (val_move rfl) rfl rfl rfl ?_)
              refine gl_cons (gs_val (val_indexArr kar120 rfl rfl rfl (by omega)) rfl rfl rfl ?_)
              refine gl_cons (gs_val (val_load1 (v := .bool false) kag4 rfl (sees_mem (by repeat (first | exact .head _ | refine .tail _ ?_ | refine List.mem_append_right _ ?_))) (seen_get _ p k t ht (by omega) hk)) rfl rfl rfl ?_)
              refine gl_cons (gs_val (val_pick_f rfl rfl) rfl rfl rfl ?_)
              refine gl_nil ?_
              refine gk_seq ?_
              refine gc_false rfl ?_
              refine gc_skip ?_
              refine gk_seq ?_
              refine gc_region ?_
              refine gl_cons (gs_val (val_move rfl) rfl rfl rfl ?_)
              refine gl_cons (gs_val (val_indexArr kar120 rfl rfl rfl (by omega)) rfl rfl rfl ?_)
              refine gl_cons (gs_store ksz4 rfl rfl rfl rfl rfl rfl (by first | exact .head | exact .tail .head | exact .tail (.tail .head) | exact .tail (.tail (.tail .head)) | exact .tail (.tail (.tail (.tail .head))) | exact .tail (.tail (.tail (.tail (.tail .head))))) (by rw [List.length_map, seen_len]; show 0 + t * 1 + 1 ≤ 61; omega) (seen_set _ p k t ht (by omega)) ?_)
              refine gl_nil ?_
              refine gk_block ?_
              refine gk_seq ?_
              refine gc_region ?_
              refine gl_cons (gs_val (val_addI rfl rfl (by omega)) rfl rfl rfl ?_)
              refine gl_cons (gs_val (val_move rfl) rfl rfl rfl ?_)
              refine gl_nil ?_
              refine gk_again (k + 1) ?_ ?_ ?_ ?_
              · show k + 1 ≤ p; omega
              · show p - (k + 1) < p - k; omega
              · exact (.cons (rfl) (.cons (rfl) (.cons (rfl) (.cons (rfl) (.cons (rfl) (.cons (rfl) .nil))))))
              · exact fun _ h => h.sub (.cons _ (.cons_cons _ (List.sublist_append_left _ _)))
            · skip
              refine gc_exit ?_
              refine gk_seq_exit ?_
              refine gk_loop_exit ?_
              refine gk_block_exit ?_
              refine gk_seq ?_
              refine gc_seq ?_
              refine gc_region ?_
              refine gl_cons (gs_val (val_assign rfl) rfl rfl rfl ?_)
              refine gl_nil ?_
              refine gk_seq ?_
              refine gc_ret ?_
              refine gk_ret rfl (resv_tmp rfl .nil) (List.nil_sublist _) ?_
              exact ⟨rfl, rfl⟩

/-- baize/baizelaw18.ChanceTurned -/
theorem turned_ok (m : Int) (ba : Option Addr) (n cap : Nat) (l : List (BitVec 64)) (hn : l.length = n) (tn : UInt8) (h : Sides m) : Pure Try.prog 31 ([I64 m, .slice ba n cap, U8 tn]).toArray (fun w => Row w [] ba (l.flatMap digL)) (.bool true) := by
  have hx : 1 ≤ throwI m (sumB l) ∧ throwI m (sumB l) ≤ m := by have h1 := h.1; have h2 := h.2; have := Nat.mod_lt (sumB l).toNat (show 0 < m.toNat by omega); unfold throwI; rw [if_pos h]; omega
  have htl := tn.toNat_lt
  refine spec_walk (n := 115) Try.func31 rfl rfl rfl (fun w0 hpre => ?_)
  refine gc_seq ?_
  refine gc_region ?_
  refine gl_cons (gs_val (val_assign rfl) rfl rfl rfl ?_)
  refine gl_nil ?_
  refine gk_seq ?_
  refine gc_seq ?_
  refine gc_seq ?_
  refine gc_region ?_
  refine gl_cons (gs_pure (enters kcall85 .nil) (known18_spec) rfl rfl rfl (fun _ _ => trivial) ?_)
  refine gl_cons (gs_val (val_not rfl) rfl rfl rfl ?_)
  refine gl_cons (gs_val (val_move rfl) rfl rfl rfl ?_)
  refine gl_cons (gs_val (val_move rfl) rfl rfl rfl ?_)
  refine gl_cons (gs_val (val_lenSli ksl42 rfl) rfl rfl rfl ?_)
  refine gl_cons (gs_val (val_gtr rfl rfl) rfl rfl rfl ?_)
  refine gl_cons (gs_val (val_pick_f rfl rfl) rfl rfl rfl ?_)
  refine gl_nil ?_
  refine gk_seq ?_
  refine gc_if rfl (fun h23 => ?_) (fun h23 => ?_)
  · skip
    refine gc_seq ?_
    refine gc_region ?_
    refine gl_cons (gs_pure (enters kcall85 .nil) (known18_spec) rfl rfl rfl (fun _ _ => trivial) ?_)
    refine gl_cons (gs_val (val_assign rfl) rfl rfl rfl ?_)
    refine gl_nil ?_
    refine gk_seq ?_
    refine gc_ret ?_
    refine gk_seq_ret ?_
    refine gk_ret rfl (resv_tmp rfl .nil) (List.nil_sublist _) ?_
    exact ⟨rfl, rfl⟩
  · have hn20 : n ≤ 20 := by omega
    refine gc_skip ?_
    refine gk_seq ?_
    refine gc_seq ?_
    refine gc_region ?_
    refine gl_cons (gs_val (val_move rfl) rfl rfl rfl ?_)
    refine gl_cons (gs_makes (enters kcall90 (.cons rfl .nil)) (of18_spec ba n cap l hn (by omega)) rfl rfl rfl (row_of_sees (sees_row hpre)) (fun ⟨ba26, c26, N26⟩ h26 => ?_))
    refine gx_perm (M := N26) (by show List.Perm (N26 ++ []) _; rw [List.append_nil]) ?_
    have own26 : Own 24 8 ba26 n c26 (l.flatMap digL) N26 := h26
    have own26c := own26.cap
    refine gl_cons (gs_val (val_assign rfl) rfl rfl rfl ?_)
    refine gl_nil ?_
    refine gk_seq ?_
    refine gc_seq ?_
    refine gc_region ?_
    refine gl_cons (gs_val (val_assign rfl) rfl rfl rfl ?_)
    refine gl_nil ?_
    refine gk_seq ?_
    refine gc_seq ?_
    refine gc_seq ?_
    refine gc_region ?_
    refine gl_cons (gs_val (val_move rfl) rfl rfl rfl ?_)
    refine gl_cons (gs_val (val_lenSli ksl43 rfl) rfl rfl rfl ?_)
    refine gl_cons (gs_val (val_gtr rfl rfl) rfl rfl rfl ?_)
    refine gl_nil ?_
    refine gk_seq ?_
    refine gc_if rfl (fun h29 => ?_) (fun h29 => ?_)
    · obtain ⟨k, hk, hkn⟩ := emod_nat (tn.toNat : Int) n (by omega)
      have htk : (l.take k).length = k := by rw [List.length_take]; omega
      have hdk : (l.drop k).length = n - k := by rw [List.length_drop, hn]
      refine gc_region ?_
      refine gl_cons (gs_val (val_move rfl) rfl rfl rfl ?_)
      refine gl_cons (gs_val (val_convI rfl kis5 kun3 (by omega)) rfl rfl rfl ?_)
      refine gl_cons (gs_val (val_move rfl) rfl rfl rfl ?_)
      refine gl_cons (gs_val (val_lenSli ksl43 rfl) rfl rfl rfl ?_)
      refine gl_cons (gs_val (val_cast (v := I64 (k : Int)) (val_remI rfl rfl (by omega)) (congrArg I64 hk)) rfl rfl rfl ?_)
      refine gl_cons (gs_val (val_assign rfl) rfl rfl rfl ?_)
      refine gl_nil ?_
      refine gk_seq ?_
      refine gc_seq ?_
      refine ga_start (m := 10) (ls := [false, false, false, false, false, false, false, false, false, false]) kmixed rfl rfl ?_
      refine ga_take (i := 1) (ls' := [false, true, false, false, false, false, false, false, false, false]) rfl (by kernel_rfl) rfl (fun _ _ _ => val_move rfl) rfl rfl rfl ?_
      refine ga_take (i := 2) (ls' := [false, true, true, false, false, false, false, false, false, false]) rfl (by kernel_rfl) rfl (fun _ _ _ => val_cast (v := I64 (k : Int)) (val_move rfl) (by first | rfl | exact congrArg I64 hk)) rfl rfl rfl ?_
      refine ga_take (i := 3) (ls' := [false, true, true, true, false, false, false, false, false, false]) rfl (by kernel_rfl) rfl (fun _ _ _ => val_sliceL (l := k) ksl43 rfl rfl rfl (by omega)) rfl rfl rfl ?_
      refine ga_take (i := 5) (ls' := [false, true, true, true, false, true, false, false, false, false]) rfl (by kernel_rfl) rfl (fun _ _ _ => val_move rfl) rfl rfl rfl ?_
      refine ga_take (i := 6) (ls' := [false, true, true, true, false, true, true, false, false, false]) rfl (by kernel_rfl) rfl (fun _ _ _ => val_cast (v := I64 (k : Int)) (val_move rfl) (by first | rfl | exact congrArg I64 hk)) rfl rfl rfl ?_
      refine ga_take (i := 7) (ls' := [false, true, true, true, false, true, true, true, false, false]) rfl (by kernel_rfl) rfl (fun _ _ _ => val_sliceH (h := k) ksl43 rfl rfl rfl (Nat.le_trans (by omega) own26.cap)) rfl rfl rfl ?_
      refine ga_branch (rs := [0]) (by kernel_rfl) rfl (.cons (ls' := [true, true, true, true, false, true, true, true, false, false]) rfl rfl ?_ .nil)
      refine gs_buildSlice (zs := []) ksl43 kze24 rfl rfl .nil .nil rfl rfl (fun b35 => ?_)
      refine ga_branch (rs := [4]) (by kernel_rfl) rfl (.cons (ls' := [true, true, true, true, true, true, true, true, false, false]) rfl rfl ?_ .nil)
      refine gs_append ksl43 kze24 rfl rfl rfl rfl rfl rfl (own_lit (xs := []) rfl) (fun _ => by first | exact .here | exact .headR | exact .app | exact .tail .here | exact .tail .headR | exact .tail .app | exact .tail (.tail .here) | exact .tail (.tail .headR) | exact .tail (.tail .app) | exact .tail (.tail (.tail .here)) | exact .tail (.tail (.tail .headR)) | exact .tail (.tail (.tail .app)) | exact .tail (.tail (.tail (.tail .here))) | exact .tail (.tail (.tail (.tail .headR))) | exact .tail (.tail (.tail (.tail .app))) | exact .tail (.tail (.tail (.tail (.tail .here)))) | exact .tail (.tail (.tail (.tail (.tail .headR)))) | exact .tail (.tail (.tail (.tail (.tail .app)))) | exact .appr .here | exact .appr .headR | exact .appr .app | exact .tail (.appr .here) | exact .tail (.appr .headR) | exact .tail (.appr .app) | exact .tail (.tail (.appr .here)) | exact .tail (.tail (.appr .headR)) | exact .tail (.tail (.appr .app)) | exact .appr (.tail .here) | exact .appr (.tail .headR) | exact .appr (.tail .app) | exact .appr (.tail (.tail .here)) | exact .appr (.tail (.tail .headR)) | exact .appr (.tail (.tail .app)) | exact .appr (.appr .here) | exact .appr (.appr .headR) | exact .appr (.appr .app) | exact .tail (.appr (.appr .here)) | exact .tail (.appr (.appr .headR)) | exact .tail (.appr (.appr .app)) | exact .appr (.appr (.tail .here)) | exact .appr (.appr (.tail .headR)) | exact .appr (.appr (.tail .app)) | exact .appr (.appr (.appr .here)) | exact .appr (.appr (.appr .headR)) | exact .appr (.appr (.appr .app))) (brings_slice ksl43 (((own26.look (by repeat (first | exact .here | exact .headR | exact .app | refine .tail ?_ | refine .appr ?_))).sl (cap := c26) (l := k) (size := 8) (by rw [dig_len, hn]; have := own26.cap; omega)).cast (flat_drop l k)) (by rw [dig_len, hdk]) (one_digs _)) (by omega) (fun ba39 c39 N39 hown39 => ?_)
      refine ga_branch (rs := [8]) (by kernel_rfl) rfl (.cons (ls' := [true, true, true, true, true, true, true, true, true, false]) rfl rfl ?_ .nil)
      refine gs_append ksl43 kze24 rfl rfl rfl rfl rfl rfl (hown39) (fun _ => by first | exact .here | exact .headR | exact .app | exact .tail .here | exact .tail .headR | exact .tail .app | exact .tail (.tail .here) | exact .tail (.tail .headR) | exact .tail (.tail .app) | exact .tail (.tail (.tail .here)) | exact .tail (.tail (.tail .headR)) | exact .tail (.tail (.tail .app)) | exact .tail (.tail (.tail (.tail .here))) | exact .tail (.tail (.tail (.tail .headR))) | exact .tail (.tail (.tail (.tail .app))) | exact .tail (.tail (.tail (.tail (.tail .here)))) | exact .tail (.tail (.tail (.tail (.tail .headR)))) | exact .tail (.tail (.tail (.tail (.tail .app)))) | exact .appr .here | exact .appr .headR | exact .appr .app | exact .tail (.appr .here) | exact .tail (.appr .headR) | exact .tail (.appr .app) | exact .tail (.tail (.appr .here)) | exact .tail (.tail (.appr .headR)) | exact .tail (.tail (.appr .app)) | exact .appr (.tail .here) | exact .appr (.tail .headR) | exact .appr (.tail .app) | exact .appr (.tail (.tail .here)) | exact .appr (.tail (.tail .headR)) | exact .appr (.tail (.tail .app)) | exact .appr (.appr .here) | exact .appr (.appr .headR) | exact .appr (.appr .app) | exact .tail (.appr (.appr .here)) | exact .tail (.appr (.appr .headR)) | exact .tail (.appr (.appr .app)) | exact .appr (.appr (.tail .here)) | exact .appr (.appr (.tail .headR)) | exact .appr (.appr (.tail .app)) | exact .appr (.appr (.appr .here)) | exact .appr (.appr (.appr .headR)) | exact .appr (.appr (.appr .app))) (brings_slice ksl43 (((own26.look (by repeat (first | exact .here | exact .headR | exact .app | refine .tail ?_ | refine .appr ?_))).take (k * 8)).cast (flat_take l k)) (by rw [dig_len, htk]) (one_digs _)) (by omega) (fun ba43 c43 N43 hown43 => ?_)
      refine ga_take (i := 9) (ls' := [true, true, true, true, true, true, true, true, true, true]) rfl (by kernel_rfl) rfl (fun _ _ _ => val_assign rfl) rfl rfl rfl ?_
      refine ga_done (by kernel_rfl) ?_
      refine gk_seq ?_
      refine gc_seq ?_
      refine gc_region ?_
      refine gl_cons (gs_val (val_move rfl) rfl rfl rfl ?_)
      refine gl_cons (gs_val (val_move rfl) rfl rfl rfl ?_)
      refine gl_cons (gs_pure (enters kcall89 (.cons rfl (.cons rfl .nil))) (cThrow_ok ba26 n c26 l (by first | exact hn | (simp; omega)) (by omega) m h) rfl rfl rfl (row_of_sees (own26.look (by repeat (first | exact .here | exact .headR | exact .app | refine .tail ?_ | refine .appr ?_)))) ?_)
      refine gl_cons (gs_val (val_move rfl) rfl rfl rfl ?_)
      refine gl_cons (gs_val (val_extract rfl rfl) rfl rfl rfl ?_)
      refine gl_cons (gs_val (val_extract rfl rfl) rfl rfl rfl ?_)
      refine gl_cons (gs_val (val_assign rfl) rfl rfl rfl ?_)
      refine gl_cons (gs_val (val_assign rfl) rfl rfl rfl ?_)
      refine gl_nil ?_
      refine gk_seq ?_
      refine gc_seq ?_
      refine gc_region ?_
      refine gl_cons (gs_val (val_move rfl) rfl rfl rfl ?_)
      refine gl_cons (gs_val (val_move rfl) rfl rfl rfl ?_)
      refine gl_cons (gs_pure (enters kcall89 (.cons rfl (.cons rfl .nil))) (cThrow_ok ba43 (0 + (n - k) + k) c43 (l.drop k ++ l.take k) (by first | exact hn | (simp; omega)) (by omega) m h) rfl rfl rfl (row_of_sees ((hown43.look (by repeat (first | exact .here | exact .headR | exact .app | refine .tail ?_ | refine .appr ?_))).cast (by simp [List.flatMap_append]))) ?_)
      refine gl_cons (gs_val (val_move rfl) rfl rfl rfl ?_)
      refine gl_cons (gs_val (val_extract rfl rfl) rfl rfl rfl ?_)
      refine gl_cons (gs_val (val_extract rfl rfl) rfl rfl rfl ?_)
      refine gl_cons (gs_val (val_assign rfl) rfl rfl rfl ?_)
      refine gl_cons (gs_val (val_assign rfl) rfl rfl rfl ?_)
      refine gl_nil ?_
      refine gk_seq ?_
      refine gc_seq ?_
      refine gc_region ?_
      refine gl_cons (gs_val (val_move rfl) rfl rfl rfl ?_)
      refine gl_cons (gs_val (val_move rfl) rfl rfl rfl ?_)
      refine gl_cons (gs_pure (enters kcall38 (.cons rfl .nil)) (fromNum_spec 0#64) rfl rfl rfl (fun _ _ => trivial) ?_)
      refine gl_cons (gs_buildSlice (zs := [.int .u8 0, .int .u8 0, .int .u8 0, .int .u8 0, .int .u8 0, .int .u8 0, .int .u8 0, .int .u8 0]) ksl43 kze24 rfl rfl (.cons rfl .nil) (.cons rfl rfl rfl (by simp) (by first | ((with_reducible refine splice_all _ _ ?_); simp; done) | (simp only [splice, stL, digL, List.take_succ_cons, List.take_zero, List.drop_succ_cons, List.drop_zero, List.length_cons, List.length_nil, Nat.reduceAdd, Nat.reduceMul, Nat.zero_add, Nat.zero_mul, List.cons_append, List.nil_append]; exact rfl)) .nil) rfl rfl (fun b60 => ?_))
      refine gl_cons (gs_append ksl43 kze24 rfl rfl rfl rfl rfl rfl (hown43) (fun _ => by first | exact .here | exact .headR | exact .app | exact .tail .here | exact .tail .headR | exact .tail .app | exact .tail (.tail .here) | exact .tail (.tail .headR) | exact .tail (.tail .app) | exact .tail (.tail (.tail .here)) | exact .tail (.tail (.tail .headR)) | exact .tail (.tail (.tail .app)) | exact .tail (.tail (.tail (.tail .here))) | exact .tail (.tail (.tail (.tail .headR))) | exact .tail (.tail (.tail (.tail .app))) | exact .tail (.tail (.tail (.tail (.tail .here)))) | exact .tail (.tail (.tail (.tail (.tail .headR)))) | exact .tail (.tail (.tail (.tail (.tail .app)))) | exact .appr .here | exact .appr .headR | exact .appr .app | exact .tail (.appr .here) | exact .tail (.appr .headR) | exact .tail (.appr .app) | exact .tail (.tail (.appr .here)) | exact .tail (.tail (.appr .headR)) | exact .tail (.tail (.appr .app)) | exact .appr (.tail .here) | exact .appr (.tail .headR) | exact .appr (.tail .app) | exact .appr (.tail (.tail .here)) | exact .appr (.tail (.tail .headR)) | exact .appr (.tail (.tail .app)) | exact .appr (.appr .here) | exact .appr (.appr .headR) | exact .appr (.appr .app) | exact .tail (.appr (.appr .here)) | exact .tail (.appr (.appr .headR)) | exact .tail (.appr (.appr .app)) | exact .appr (.appr (.tail .here)) | exact .appr (.appr (.tail .headR)) | exact .appr (.appr (.tail .app)) | exact .appr (.appr (.appr .here)) | exact .appr (.appr (.appr .headR)) | exact .appr (.appr (.appr .app))) (brings_slice ksl43 (sees_all (by repeat (first | exact .head _ | refine .tail _ ?_ | refine List.mem_append_right _ ?_))) rfl (one_dig _)) (by omega) (fun ba61 c61 N61 hown61 => ?_))
      refine gl_cons (gs_pure (enters kcall89 (.cons rfl (.cons rfl .nil))) (cThrow_ok ba61 (0 + (n - k) + k + 1) c61 ((l.drop k ++ l.take k) ++ [0#64]) (by first | exact hn | (simp; omega)) (by omega) m h) rfl rfl rfl (row_of_sees ((hown61.look (by repeat (first | exact .here | exact .headR | exact .app | refine .tail ?_ | refine .appr ?_))).cast (by simp [List.flatMap_append]))) ?_)
      refine gl_cons (gs_val (val_move rfl) rfl rfl rfl ?_)
      refine gl_cons (gs_val (val_extract rfl rfl) rfl rfl rfl ?_)
      refine gl_cons (gs_val (val_extract rfl rfl) rfl rfl rfl ?_)
      refine gl_cons (gs_val (val_assign rfl) rfl rfl rfl ?_)
      refine gl_cons (gs_val (val_assign rfl) rfl rfl rfl ?_)
      refine gl_nil ?_
      refine gk_seq ?_
      refine gc_seq ?_
      refine gc_region ?_
      refine gl_cons (gs_val (val_move rfl) rfl rfl rfl ?_)
      refine gl_cons (gs_val (val_yes (val_geq rfl rfl) h.1) rfl rfl rfl ?_)
      refine gl_cons (gs_val (val_move rfl) rfl rfl rfl ?_)
      refine gl_cons (gs_val (val_move rfl) rfl rfl rfl ?_)
      refine gl_cons (gs_val (val_yes (val_leq rfl rfl) h.2) rfl rfl rfl ?_)
      refine gl_cons (gs_val (val_pick_t rfl rfl) rfl rfl rfl ?_)
      refine gl_cons (gs_val (val_assign rfl) rfl rfl rfl ?_)
      refine gl_nil ?_
      refine gk_seq ?_
      refine gc_seq ?_
      refine gc_region ?_
      refine gl_cons (gs_val (val_move rfl) rfl rfl rfl ?_)
      refine gl_cons (gs_val (val_move rfl) rfl rfl rfl ?_)
      refine gl_cons (gs_val (val_yes (val_eql rfl rfl) (by rw [sumB_turn])) rfl rfl rfl ?_)
      refine gl_cons (gs_val (val_move rfl) rfl rfl rfl ?_)
      refine gl_cons (gs_val (val_move rfl) rfl rfl rfl ?_)
      refine gl_cons (gs_val (val_move rfl) rfl rfl rfl ?_)
      refine gl_cons (gs_val (val_yes (val_eql rfl rfl) rfl) rfl rfl rfl ?_)
      refine gl_cons (gs_val (val_pick_t rfl rfl) rfl rfl rfl ?_)
      refine gl_cons (gs_val (val_move rfl) rfl rfl rfl ?_)
      refine gl_cons (gs_val (val_move rfl) rfl rfl rfl ?_)
      refine gl_cons (gs_val (val_move rfl) rfl rfl rfl ?_)
      refine gl_cons (gs_val (val_yes (val_eql rfl rfl) (by rw [sumB_append, sumB_turn, sumB_one]; simp)) rfl rfl rfl ?_)
      refine gl_cons (gs_val (val_pick_t rfl rfl) rfl rfl rfl ?_)
      refine gl_cons (gs_val (val_move rfl) rfl rfl rfl ?_)
      refine gl_cons (gs_val (val_move rfl) rfl rfl rfl ?_)
      refine gl_cons (gs_val (val_move rfl) rfl rfl rfl ?_)
      refine gl_cons (gs_val (val_yes (val_eql rfl rfl) rfl) rfl rfl rfl ?_)
      refine gl_cons (gs_val (val_pick_t rfl rfl) rfl rfl rfl ?_)
      refine gl_cons (gs_val (val_move rfl) rfl rfl rfl ?_)
      refine gl_cons (gs_val (val_move rfl) rfl rfl rfl ?_)
      refine gl_cons (gs_val (val_yes (val_eql rfl rfl) rfl) rfl rfl rfl ?_)
      refine gl_cons (gs_val (val_move rfl) rfl rfl rfl ?_)
      refine gl_cons (gs_val (val_cast (v := .bool true) (val_eqlB kun4 rfl rfl) rfl) rfl rfl rfl ?_)
      refine gl_cons (gs_val (val_pick_t rfl rfl) rfl rfl rfl ?_)
      refine gl_cons (gs_val (val_move rfl) rfl rfl rfl ?_)
      refine gl_cons (gs_val (val_move rfl) rfl rfl rfl ?_)
      refine gl_cons (gs_val (val_move rfl) rfl rfl rfl ?_)
      refine gl_cons (gs_val (val_move rfl) rfl rfl rfl ?_)
      refine gl_cons (gs_val (val_yes (val_geq rfl rfl) hx.1) rfl rfl rfl ?_)
      refine gl_cons (gs_val (val_pick_t rfl rfl) rfl rfl rfl ?_)
      refine gl_cons (gs_val (val_move rfl) rfl rfl rfl ?_)
      refine gl_cons (gs_val (val_move rfl) rfl rfl rfl ?_)
      refine gl_cons (gs_val (val_move rfl) rfl rfl rfl ?_)
      refine gl_cons (gs_val (val_yes (val_leq rfl rfl) hx.2) rfl rfl rfl ?_)
      refine gl_cons (gs_val (val_pick_t rfl rfl) rfl rfl rfl ?_)
      refine gl_cons (gs_val (val_move rfl) rfl rfl rfl ?_)
      refine gl_cons (gs_skip rfl rfl rfl ?_)
      refine gl_cons (gs_skip rfl rfl rfl ?_)
      refine gl_cons (gs_skip rfl rfl rfl ?_)
      refine gl_cons (gs_skip rfl rfl rfl ?_)
      refine gl_cons (gs_skip rfl rfl rfl ?_)
      refine gl_cons (gs_skip rfl rfl rfl ?_)
      refine gl_cons (gs_val (val_pick_t rfl rfl) rfl rfl rfl ?_)
      refine gl_cons (gs_val (val_pick_t rfl rfl) rfl rfl rfl ?_)
      refine gl_cons (gs_val (val_assign rfl) rfl rfl rfl ?_)
      refine gl_nil ?_
      refine gk_seq ?_
      refine gc_ret ?_
      refine gk_ret rfl (resv_tmp rfl .nil) (List.nil_sublist _) ?_
      exact ⟨rfl, rfl⟩
    · obtain ⟨k, hk, hkn, htk, hdk⟩ : ∃ k : Nat, (0 : Int) = (k : Int) ∧ k ≤ n ∧ (l.take k).length = k ∧ (l.drop k).length = n - k := ⟨0, rfl, Nat.zero_le _, rfl, by rw [List.length_drop, hn]⟩
      refine gc_skip ?_
      refine gk_seq ?_
      refine gc_seq ?_
      refine ga_start (m := 10) (ls := [false, false, false, false, false, false, false, false, false, false]) kmixed rfl rfl ?_
      refine ga_take (i := 1) (ls' := [false, true, false, false, false, false, false, false, false, false]) rfl (by kernel_rfl) rfl (fun _ _ _ => val_move rfl) rfl rfl rfl ?_
      refine ga_take (i := 2) (ls' := [false, true, true, false, false, false, false, false, false, false]) rfl (by kernel_rfl) rfl (fun _ _ _ => val_cast (v := I64 (k : Int)) (val_move rfl) (by first | rfl | exact congrArg I64 hk)) rfl rfl rfl ?_
      refine ga_take (i := 3) (ls' := [false, true, true, true, false, false, false, false, false, false]) rfl (by kernel_rfl) rfl (fun _ _ _ => val_sliceL (l := k) ksl43 rfl rfl rfl (by omega)) rfl rfl rfl ?_
      refine ga_take (i := 5) (ls' := [false, true, true, true, false, true, false, false, false, false]) rfl (by kernel_rfl) rfl (fun _ _ _ => val_move rfl) rfl rfl rfl ?_
      refine ga_take (i := 6) (ls' := [false, true, true, true, false, true, true, false, false, false]) rfl (by kernel_rfl) rfl (fun _ _ _ => val_cast (v := I64 (k : Int)) (val_move rfl) (by first | rfl | exact congrArg I64 hk)) rfl rfl rfl ?_
      refine ga_take (i := 7) (ls' := [false, true, true, true, false, true, true, true, false, false]) rfl (by kernel_rfl) rfl (fun _ _ _ => val_sliceH (h := k) ksl43 rfl rfl rfl (Nat.le_trans (by omega) own26.cap)) rfl rfl rfl ?_
      refine ga_branch (rs := [0]) (by kernel_rfl) rfl (.cons (ls' := [true, true, true, true, false, true, true, true, false, false]) rfl rfl ?_ .nil)
      refine gs_buildSlice (zs := []) ksl43 kze24 rfl rfl .nil .nil rfl rfl (fun b35 => ?_)
      refine ga_branch (rs := [4]) (by kernel_rfl) rfl (.cons (ls' := [true, true, true, true, true, true, true, true, false, false]) rfl rfl ?_ .nil)
      refine gs_append ksl43 kze24 rfl rfl rfl rfl rfl rfl (own_lit (xs := []) rfl) (fun _ => by first | exact .here | exact .headR | exact .app | exact .tail .here | exact .tail .headR | exact .tail .app | exact .tail (.tail .here) | exact .tail (.tail .headR) | exact .tail (.tail .app) | exact .tail (.tail (.tail .here)) | exact .tail (.tail (.tail .headR)) | exact .tail (.tail (.tail .app)) | exact .tail (.tail (.tail (.tail .here))) | exact .tail (.tail (.tail (.tail .headR))) | exact .tail (.tail (.tail (.tail .app))) | exact .tail (.tail (.tail (.tail (.tail .here)))) | exact .tail (.tail (.tail (.tail (.tail .headR)))) | exact .tail (.tail (.tail (.tail (.tail .app)))) | exact .appr .here | exact .appr .headR | exact .appr .app | exact .tail (.appr .here) | exact .tail (.appr .headR) | exact .tail (.appr .app) | exact .tail (.tail (.appr .here)) | exact .tail (.tail (.appr .headR)) | exact .tail (.tail (.appr .app)) | exact .appr (.tail .here) | exact .appr (.tail .headR) | exact .appr (.tail .app) | exact .appr (.tail (.tail .here)) | exact .appr (.tail (.tail .headR)) | exact .appr (.tail (.tail .app)) | exact .appr (.appr .here) | exact .appr (.appr .headR) | exact .appr (.appr .app) | exact .tail (.appr (.appr .here)) | exact .tail (.appr (.appr .headR)) | exact .tail (.appr (.appr .app)) | exact .appr (.appr (.tail .here)) | exact .appr (.appr (.tail .headR)) | exact .appr (.appr (.tail .app)) | exact .appr (.appr (.appr .here)) | exact .appr (.appr (.appr .headR)) | exact .appr (.appr (.appr .app))) (brings_slice ksl43 (((own26.look (by repeat (first | exact .here | exact .headR | exact .app | refine .tail ?_ | refine .appr ?_))).sl (cap := c26) (l := k) (size := 8) (by rw [dig_len, hn]; have := own26.cap; omega)).cast (flat_drop l k)) (by rw [dig_len, hdk]) (one_digs _)) (by omega) (fun ba39 c39 N39 hown39 => ?_)
      refine ga_branch (rs := [8]) (by kernel_rfl) rfl (.cons (ls' := [true, true, true, true, true, true, true, true, true, false]) rfl rfl ?_ .nil)
      refine gs_append ksl43 kze24 rfl rfl rfl rfl rfl rfl (hown39) (fun _ => by first | exact .here | exact .headR | exact .app | exact .tail .here | exact .tail .headR | exact .tail .app | exact .tail (.tail .here) | exact .tail (.tail .headR) | exact .tail (.tail .app) | exact .tail (.tail (.tail .here)) | exact .tail (.tail (.tail .headR)) | exact .tail (.tail (.tail .app)) | exact .tail (.tail (.tail (.tail .here))) | exact .tail (.tail (.tail (.tail .headR))) | exact .tail (.tail (.tail (.tail .app))) | exact .tail (.tail (.tail (.tail (.tail .here)))) | exact .tail (.tail (.tail (.tail (.tail .headR)))) | exact .tail (.tail (.tail (.tail (.tail .app)))) | exact .appr .here | exact .appr .headR | exact .appr .app | exact .tail (.appr .here) | exact .tail (.appr .headR) | exact .tail (.appr .app) | exact .tail (.tail (.appr .here)) | exact .tail (.tail (.appr .headR)) | exact .tail (.tail (.appr .app)) | exact .appr (.tail .here) | exact .appr (.tail .headR) | exact .appr (.tail .app) | exact .appr (.tail (.tail .here)) | exact .appr (.tail (.tail .headR)) | exact .appr (.tail (.tail .app)) | exact .appr (.appr .here) | exact .appr (.appr .headR) | exact .appr (.appr .app) | exact .tail (.appr (.appr .here)) | exact .tail (.appr (.appr .headR)) | exact .tail (.appr (.appr .app)) | exact .appr (.appr (.tail .here)) | exact .appr (.appr (.tail .headR)) | exact .appr (.appr (.tail .app)) | exact .appr (.appr (.appr .here)) | exact .appr (.appr (.appr .headR)) | exact .appr (.appr (.appr .app))) (brings_slice ksl43 (((own26.look (by repeat (first | exact .here | exact .headR | exact .app | refine .tail ?_ | refine .appr ?_))).take (k * 8)).cast (flat_take l k)) (by rw [dig_len, htk]) (one_digs _)) (by omega) (fun ba43 c43 N43 hown43 => ?_)
      refine ga_take (i := 9) (ls' := [true, true, true, true, true, true, true, true, true, true]) rfl (by kernel_rfl) rfl (fun _ _ _ => val_assign rfl) rfl rfl rfl ?_
      refine ga_done (by kernel_rfl) ?_
      refine gk_seq ?_
      refine gc_seq ?_
      refine gc_region ?_
      refine gl_cons (gs_val (val_move rfl) rfl rfl rfl ?_)
      refine gl_cons (gs_val (val_move rfl) rfl rfl rfl ?_)
      refine gl_cons (gs_pure (enters kcall89 (.cons rfl (.cons rfl .nil))) (cThrow_ok ba26 n c26 l (by first | exact hn | (simp; omega)) (by omega) m h) rfl rfl rfl (row_of_sees (own26.look (by repeat (first | exact .here | exact .headR | exact .app | refine .tail ?_ | refine .appr ?_)))) ?_)
      refine gl_cons (gs_val (val_move rfl) rfl rfl rfl ?_)
      refine gl_cons (gs_val (val_extract rfl rfl) rfl rfl rfl ?_)
      refine gl_cons (gs_val (val_extract rfl rfl) rfl rfl rfl ?_)
      refine gl_cons (gs_val (val_assign rfl) rfl rfl rfl ?_)
      refine gl_cons (gs_val (val_assign rfl) rfl rfl rfl ?_)
      refine gl_nil ?_
      refine gk_seq ?_
      refine gc_seq ?_
      refine gc_region ?_
      refine gl_cons (gs_val (val_move rfl) rfl rfl rfl ?_)
      refine gl_cons (gs_val (val_move rfl) rfl rfl rfl ?_)
      refine gl_cons (gs_pure (enters kcall89 (.cons rfl (.cons rfl .nil))) (cThrow_ok ba43 (0 + (n - k) + k) c43 (l.drop k ++ l.take k) (by first | exact hn | (simp; omega)) (by omega) m h) rfl rfl rfl (row_of_sees ((hown43.look (by repeat (first | exact .here | exact .headR | exact .app | refine .tail ?_ | refine .appr ?_))).cast (by simp [List.flatMap_append]))) ?_)
      refine gl_cons (gs_val (val_move rfl) rfl rfl rfl ?_)
      refine gl_cons (gs_val (val_extract rfl rfl) rfl rfl rfl ?_)
      refine gl_cons (gs_val (val_extract rfl rfl) rfl rfl rfl ?_)
      refine gl_cons (gs_val (val_assign rfl) rfl rfl rfl ?_)
      refine gl_cons (gs_val (val_assign rfl) rfl rfl rfl ?_)
      refine gl_nil ?_
      refine gk_seq ?_
      refine gc_seq ?_
      refine gc_region ?_
      refine gl_cons (gs_val (val_move rfl) rfl rfl rfl ?_)
      refine gl_cons (gs_val (val_move rfl) rfl rfl rfl ?_)
      refine gl_cons (gs_pure (enters kcall38 (.cons rfl .nil)) (fromNum_spec 0#64) rfl rfl rfl (fun _ _ => trivial) ?_)
      refine gl_cons (gs_buildSlice (zs := [.int .u8 0, .int .u8 0, .int .u8 0, .int .u8 0, .int .u8 0, .int .u8 0, .int .u8 0, .int .u8 0]) ksl43 kze24 rfl rfl (.cons rfl .nil) (.cons rfl rfl rfl (by simp) (by first | ((with_reducible refine splice_all _ _ ?_); simp; done) | (simp only [splice, stL, digL, List.take_succ_cons, List.take_zero, List.drop_succ_cons, List.drop_zero, List.length_cons, List.length_nil, Nat.reduceAdd, Nat.reduceMul, Nat.zero_add, Nat.zero_mul, List.cons_append, List.nil_append]; exact rfl)) .nil) rfl rfl (fun b60 => ?_))
      refine gl_cons (gs_append ksl43 kze24 rfl rfl rfl rfl rfl rfl (hown43) (fun _ => by first | exact .here | exact .headR | exact .app | exact .tail .here | exact .tail .headR | exact .tail .app | exact .tail (.tail .here) | exact .tail (.tail .headR) | exact .tail (.tail .app) | exact .tail (.tail (.tail .here)) | exact .tail (.tail (.tail .headR)) | exact .tail (.tail (.tail .app)) | exact .tail (.tail (.tail (.tail .here))) | exact .tail (.tail (.tail (.tail .headR))) | exact .tail (.tail (.tail (.tail .app))) | exact .tail (.tail (.tail (.tail (.tail .here)))) | exact .tail (.tail (.tail (.tail (.tail .headR)))) | exact .tail (.tail (.tail (.tail (.tail .app)))) | exact .appr .here | exact .appr .headR | exact .appr .app | exact .tail (.appr .here) | exact .tail (.appr .headR) | exact .tail (.appr .app) | exact .tail (.tail (.appr .here)) | exact .tail (.tail (.appr .headR)) | exact .tail (.tail (.appr .app)) | exact .appr (.tail .here) | exact .appr (.tail .headR) | exact .appr (.tail .app) | exact .appr (.tail (.tail .here)) | exact .appr (.tail (.tail .headR)) | exact .appr (.tail (.tail .app)) | exact .appr (.appr .here) | exact .appr (.appr .headR) | exact .appr (.appr .app) | exact .tail (.appr (.appr .here)) | exact .tail (.appr (.appr .headR)) | exact .tail (.appr (.appr .app)) | exact .appr (.appr (.tail .here)) | exact .appr (.appr (.tail .headR)) | exact .appr (.appr (.tail .app)) | exact .appr (.appr (.appr .here)) | exact .appr (.appr (.appr .headR)) | exact .appr (.appr (.appr .app))) (brings_slice ksl43 (sees_all (by repeat (first | exact .head _ | refine .tail _ ?_ | refine List.mem_append_right _ ?_))) rfl (one_dig _)) (by omega) (fun ba61 c61 N61 hown61 => ?_))
      refine gl_cons (gs_pure (enters kcall89 (.cons rfl (.cons rfl .nil))) (cThrow_ok ba61 (0 + (n - k) + k + 1) c61 ((l.drop k ++ l.take k) ++ [0#64]) (by first | exact hn | (simp; omega)) (by omega) m h) rfl rfl rfl (row_of_sees ((hown61.look (by repeat (first | exact .here | exact .headR | exact .app | refine .tail ?_ | refine .appr ?_))).cast (by simp [List.flatMap_append]))) ?_)
      refine gl_cons (gs_val (val_move rfl) rfl rfl rfl ?_)
      refine gl_cons (gs_val (val_extract rfl rfl) rfl rfl rfl ?_)
      refine gl_cons (gs_val (val_extract rfl rfl) rfl rfl rfl ?_)
      refine gl_cons (gs_val (val_assign rfl) rfl rfl rfl ?_)
      refine gl_cons (gs_val (val_assign rfl) rfl rfl rfl ?_)
      refine gl_nil ?_
      refine gk_seq ?_
      refine gc_seq ?_
      refine gc_region ?_
      refine gl_cons (gs_val (val_move rfl) rfl rfl rfl ?_)
      refine gl_cons (gs_val (val_yes (val_geq rfl rfl) h.1) rfl rfl rfl ?_)
      refine gl_cons (gs_val (val_move rfl) rfl rfl rfl ?_)
      refine gl_cons (gs_val (val_move rfl) rfl rfl rfl ?_)
      refine gl_cons (gs_val (val_yes (val_leq rfl rfl) h.2) rfl rfl rfl ?_)
      refine gl_cons (gs_val (val_pick_t rfl rfl) rfl rfl rfl ?_)
      refine gl_cons (gs_val (val_assign rfl) rfl rfl rfl ?_)
      refine gl_nil ?_
      refine gk_seq ?_
      refine gc_seq ?_
      refine gc_region ?_
      refine gl_cons (gs_val (val_move rfl) rfl rfl rfl ?_)
      refine gl_cons (gs_val (val_move rfl) rfl rfl rfl ?_)
      refine gl_cons (gs_val (val_yes (val_eql rfl rfl) (by rw [sumB_turn])) rfl rfl rfl ?_)
      refine gl_cons (gs_val (val_move rfl) rfl rfl rfl ?_)
      refine gl_cons (gs_val (val_move rfl) rfl rfl rfl ?_)
      refine gl_cons (gs_val (val_move rfl) rfl rfl rfl ?_)
      refine gl_cons (gs_val (val_yes (val_eql rfl rfl) rfl) rfl rfl rfl ?_)
      refine gl_cons (gs_val (val_pick_t rfl rfl) rfl rfl rfl ?_)
      refine gl_cons (gs_val (val_move rfl) rfl rfl rfl ?_)
      refine gl_cons (gs_val (val_move rfl) rfl rfl rfl ?_)
      refine gl_cons (gs_val (val_move rfl) rfl rfl rfl ?_)
      refine gl_cons (gs_val (val_yes (val_eql rfl rfl) (by rw [sumB_append, sumB_turn, sumB_one]; simp)) rfl rfl rfl ?_)
      refine gl_cons (gs_val (val_pick_t rfl rfl) rfl rfl rfl ?_)
      refine gl_cons (gs_val (val_move rfl) rfl rfl rfl ?_)
      refine gl_cons (gs_val (val_move rfl) rfl rfl rfl ?_)
      refine gl_cons (gs_val (val_move rfl) rfl rfl rfl ?_)
      refine gl_cons (gs_val (val_yes (val_eql rfl rfl) rfl) rfl rfl rfl ?_)
      refine gl_cons (gs_val (val_pick_t rfl rfl) rfl rfl rfl ?_)
      refine gl_cons (gs_val (val_move rfl) rfl rfl rfl ?_)
      refine gl_cons (gs_val (val_move rfl) rfl rfl rfl ?_)
      refine gl_cons (gs_val (val_yes (val_eql rfl rfl) rfl) rfl rfl rfl ?_)
      refine gl_cons (gs_val (val_move rfl) rfl rfl rfl ?_)
      refine gl_cons (gs_val (val_cast (v := .bool true) (val_eqlB kun4 rfl rfl) rfl) rfl rfl rfl ?_)
      refine gl_cons (gs_val (val_pick_t rfl rfl) rfl rfl rfl ?_)
      refine gl_cons (gs_val (val_move rfl) rfl rfl rfl ?_)
      refine gl_cons (gs_val (val_move rfl) rfl rfl rfl ?_)
      refine gl_cons (gs_val (val_move rfl) rfl rfl rfl ?_)
      refine gl_cons (gs_val (val_move rfl) rfl rfl rfl ?_)
      refine gl_cons (gs_val (val_yes (val_geq rfl rfl) hx.1) rfl rfl rfl ?_)
      refine gl_cons (gs_val (val_pick_t rfl rfl) rfl rfl rfl ?_)
      refine gl_cons (gs_val (val_move rfl) rfl rfl rfl ?_)
      refine gl_cons (gs_val (val_move rfl) rfl rfl rfl ?_)
      refine gl_cons (gs_val (val_move rfl) rfl rfl rfl ?_)
      refine gl_cons (gs_val (val_yes (val_leq rfl rfl) hx.2) rfl rfl rfl ?_)
      refine gl_cons (gs_val (val_pick_t rfl rfl) rfl rfl rfl ?_)
      refine gl_cons (gs_val (val_move rfl) rfl rfl rfl ?_)
      refine gl_cons (gs_skip rfl rfl rfl ?_)
      refine gl_cons (gs_skip rfl rfl rfl ?_)
      refine gl_cons (gs_skip rfl rfl rfl ?_)
      refine gl_cons (gs_skip rfl rfl rfl ?_)
      refine gl_cons (gs_skip rfl rfl rfl ?_)
      refine gl_cons (gs_skip rfl rfl rfl ?_)
      refine gl_cons (gs_val (val_pick_t rfl rfl) rfl rfl rfl ?_)
      refine gl_cons (gs_val (val_pick_t rfl rfl) rfl rfl rfl ?_)
      refine gl_cons (gs_val (val_assign rfl) rfl rfl rfl ?_)
      refine gl_nil ?_
      refine gk_seq ?_
      refine gc_ret ?_
      refine gk_ret rfl (resv_tmp rfl .nil) (List.nil_sublist _) ?_
      exact ⟨rfl, rfl⟩

/-- baize/baizelaw18.ChanceTurned -/
theorem turned_no (m : Int) (ba : Option Addr) (n cap : Nat) (l : List (BitVec 64)) (hn : l.length = n) (tn : UInt8) (h : ¬ Sides m) : Pure Try.prog 31 ([I64 m, .slice ba n cap, U8 tn]).toArray (fun w => Row w [] ba (l.flatMap digL)) (.bool true) := by
  have h' : ¬ (1 ≤ m ∧ m ≤ 2147483647) := h
  have htl := tn.toNat_lt
  refine spec_walk (n := 115) Try.func31 rfl rfl rfl (fun w0 hpre => ?_)
  refine gc_seq ?_
  refine gc_region ?_
  refine gl_cons (gs_val (val_assign rfl) rfl rfl rfl ?_)
  refine gl_nil ?_
  refine gk_seq ?_
  refine gc_seq ?_
  refine gc_seq ?_
  refine gc_region ?_
  refine gl_cons (gs_pure (enters kcall85 .nil) (known18_spec) rfl rfl rfl (fun _ _ => trivial) ?_)
  refine gl_cons (gs_val (val_not rfl) rfl rfl rfl ?_)
  refine gl_cons (gs_val (val_move rfl) rfl rfl rfl ?_)
  refine gl_cons (gs_val (val_move rfl) rfl rfl rfl ?_)
  refine gl_cons (gs_val (val_lenSli ksl42 rfl) rfl rfl rfl ?_)
  refine gl_cons (gs_val (val_gtr rfl rfl) rfl rfl rfl ?_)
  refine gl_cons (gs_val (val_pick_f rfl rfl) rfl rfl rfl ?_)
  refine gl_nil ?_
  refine gk_seq ?_
  refine gc_if rfl (fun h23 => ?_) (fun h23 => ?_)
  · skip
    refine gc_seq ?_
    refine gc_region ?_
    refine gl_cons (gs_pure (enters kcall85 .nil) (known18_spec) rfl rfl rfl (fun _ _ => trivial) ?_)
    refine gl_cons (gs_val (val_assign rfl) rfl rfl rfl ?_)
    refine gl_nil ?_
    refine gk_seq ?_
    refine gc_ret ?_
    refine gk_seq_ret ?_
    refine gk_ret rfl (resv_tmp rfl .nil) (List.nil_sublist _) ?_
    exact ⟨rfl, rfl⟩
  · have hn20 : n ≤ 20 := by omega
    refine gc_skip ?_
    refine gk_seq ?_
    refine gc_seq ?_
    refine gc_region ?_
    refine gl_cons (gs_val (val_move rfl) rfl rfl rfl ?_)
    refine gl_cons (gs_makes (enters kcall90 (.cons rfl .nil)) (of18_spec ba n cap l hn (by omega)) rfl rfl rfl (row_of_sees (sees_row hpre)) (fun ⟨ba26, c26, N26⟩ h26 => ?_))
    refine gx_perm (M := N26) (by show List.Perm (N26 ++ []) _; rw [List.append_nil]) ?_
    have own26 : Own 24 8 ba26 n c26 (l.flatMap digL) N26 := h26
    have own26c := own26.cap
    refine gl_cons (gs_val (val_assign rfl) rfl rfl rfl ?_)
    refine gl_nil ?_
    refine gk_seq ?_
    refine gc_seq ?_
    refine gc_region ?_
    refine gl_cons (gs_val (val_assign rfl) rfl rfl rfl ?_)
    refine gl_nil ?_
    refine gk_seq ?_
    refine gc_seq ?_
    refine gc_seq ?_
    refine gc_region ?_
    refine gl_cons (gs_val (val_move rfl) rfl rfl rfl ?_)
    refine gl_cons (gs_val (val_lenSli ksl43 rfl) rfl rfl rfl ?_)
    refine gl_cons (gs_val (val_gtr rfl rfl) rfl rfl rfl ?_)
    refine gl_nil ?_
    refine gk_seq ?_
    refine gc_if rfl (fun h29 => ?_) (fun h29 => ?_)
    · obtain ⟨k, hk, hkn⟩ := emod_nat (tn.toNat : Int) n (by omega)
      have htk : (l.take k).length = k := by rw [List.length_take]; omega
      have hdk : (l.drop k).length = n - k := by rw [List.length_drop, hn]
      refine gc_region ?_
      refine gl_cons (gs_val (val_move rfl) rfl rfl rfl ?_)
      refine gl_cons (gs_val (val_convI rfl kis5 kun3 (by omega)) rfl rfl rfl ?_)
      refine gl_cons (gs_val (val_move rfl) rfl rfl rfl ?_)
      refine gl_cons (gs_val (val_lenSli ksl43 rfl) rfl rfl rfl ?_)
      refine gl_cons (gs_val (val_cast (v := I64 (k : Int)) (val_remI rfl rfl (by omega)) (congrArg I64 hk)) rfl rfl rfl ?_)
      refine gl_cons (gs_val (val_assign rfl) rfl rfl rfl ?_)
      refine gl_nil ?_
      refine gk_seq ?_
      refine gc_seq ?_
      refine ga_start (m := 10) (ls := [false, false, false, false, false, false, false, false, false, false]) kmixed rfl rfl ?_
      refine ga_take (i := 1) (ls' := [false, true, false, false, false, false, false, false, false, false]) rfl (by kernel_rfl) rfl (fun _ _ _ => val_move rfl) rfl rfl rfl ?_
      refine ga_take (i := 2) (ls' := [false, true, true, false, false, false, false, false, false, false]) rfl (by kernel_rfl) rfl (fun _ _ _ => val_cast (v := I64 (k : Int)) (val_move rfl) (by first | rfl | exact congrArg I64 hk)) rfl rfl rfl ?_
      refine ga_take (i := 3) (ls' := [false, true, true, true, false, false, false, false, false, false]) rfl (by kernel_rfl) rfl (fun _ _ _ => val_sliceL (l := k) ksl43 rfl rfl rfl (by omega)) rfl rfl rfl ?_
      refine ga_take (i := 5) (ls' := [false, true, true, true, false, true, false, false, false, false]) rfl (by kernel_rfl) rfl (fun _ _ _ => val_move rfl) rfl rfl rfl ?_
      refine ga_take (i := 6) (ls' := [false, true, true, true, false, true, true, false, false, false]) rfl (by kernel_rfl) rfl (fun _ _ _ => val_cast (v := I64 (k : Int)) (val_move rfl) (by first | rfl | exact congrArg I64 hk)) rfl rfl rfl ?_
      refine ga_take (i := 7) (ls' := [false, true, true, true, false, true, true, true, false, false]) rfl (by kernel_rfl) rfl (fun _ _ _ => val_sliceH (h := k) ksl43 rfl rfl rfl (Nat.le_trans (by omega) own26.cap)) rfl rfl rfl ?_
      refine ga_branch (rs := [0]) (by kernel_rfl) rfl (.cons (ls' := [true, true, true, true, false, true, true, true, false, false]) rfl rfl ?_ .nil)
      refine gs_buildSlice (zs := []) ksl43 kze24 rfl rfl .nil .nil rfl rfl (fun b35 => ?_)
      refine ga_branch (rs := [4]) (by kernel_rfl) rfl (.cons (ls' := [true, true, true, true, true, true, true, true, false, false]) rfl rfl ?_ .nil)
      refine gs_append ksl43 kze24 rfl rfl rfl rfl rfl rfl (own_lit (xs := []) rfl) (fun _ => by first | exact .here | exact .headR | exact .app | exact .tail .here | exact .tail .headR | exact .tail .app | exact .tail (.tail .here) | exact .tail (.tail .headR) | exact .tail (.tail .app) | exact .tail (.tail (.tail .here)) | exact .tail (.tail (.tail .headR)) | exact .tail (.tail (.tail .app)) | exact .tail (.tail (.tail (.tail .here))) | exact .tail (.tail (.tail (.tail .headR))) | exact .tail (.tail (.tail (.tail .app))) | exact .tail (.tail (.tail (.tail (.tail .here)))) | exact .tail (.tail (.tail (.tail (.tail .headR)))) | exact .tail (.tail (.tail (.tail (.tail .app)))) | exact .appr .here | exact .appr .headR | exact .appr .app | exact .tail (.appr .here) | exact .tail (.appr .headR) | exact .tail (.appr .app) | exact .tail (.tail (.appr .here)) | exact .tail (.tail (.appr .headR)) | exact .tail (.tail (.appr .app)) | exact .appr (.tail .here) | exact .appr (.tail .headR) | exact .appr (.tail .app) | exact .appr (.tail (.tail .here)) | exact .appr (.tail (.tail .headR)) | exact .appr (.tail (.tail .app)) | exact .appr (.appr .here) | exact .appr (.appr .headR) | exact .appr (.appr .app) | exact .tail (.appr (.appr .here)) | exact .tail (.appr (.appr .headR)) | exact .tail (.appr (.appr .app)) | exact .appr (.appr (.tail .here)) | exact .appr (.appr (.tail .headR)) | exact .appr (.appr (.tail .app)) | exact .appr (.appr (.appr .here)) | exact .appr (.appr (.appr .headR)) | exact .appr (.appr (.appr .app))) (brings_slice ksl43 (((own26.look (by repeat (first | exact .here | exact .headR | exact .app | refine .tail ?_ | refine .appr ?_))).sl (cap := c26) (l := k) (size := 8) (by rw [dig_len, hn]; have := own26.cap; omega)).cast (flat_drop l k)) (by rw [dig_len, hdk]) (one_digs _)) (by omega) (fun ba39 c39 N39 hown39 => ?_)
      refine ga_branch (rs := [8]) (by kernel_rfl) rfl (.cons (ls' := [true, true, true, true, true, true, true, true, true, false]) rfl rfl ?_ .nil)
      refine gs_append ksl43 kze24 rfl rfl rfl rfl rfl rfl (hown39) (fun _ => by first | exact .here | exact .headR | exact .app | exact .tail .here | exact .tail .headR | exact .tail .app | exact .tail (.tail .here) | exact .tail (.tail .headR) | exact .tail (.tail .app) | exact .tail (.tail (.tail .here)) | exact .tail (.tail (.tail .headR)) | exact .tail (.tail (.tail .app)) | exact .tail (.tail (.tail (.tail .here))) | exact .tail (.tail (.tail (.tail .headR))) | exact .tail (.tail (.tail (.tail .app))) | exact .tail (.tail (.tail (.tail (.tail .here)))) | exact .tail (.tail (.tail (.tail (.tail .headR)))) | exact .tail (.tail (.tail (.tail (.tail .app)))) | exact .appr .here | exact .appr .headR | exact .appr .app | exact .tail (.appr .here) | exact .tail (.appr .headR) | exact .tail (.appr .app) | exact .tail (.tail (.appr .here)) | exact .tail (.tail (.appr .headR)) | exact .tail (.tail (.appr .app)) | exact .appr (.tail .here) | exact .appr (.tail .headR) | exact .appr (.tail .app) | exact .appr (.tail (.tail .here)) | exact .appr (.tail (.tail .headR)) | exact .appr (.tail (.tail .app)) | exact .appr (.appr .here) | exact .appr (.appr .headR) | exact .appr (.appr .app) | exact .tail (.appr (.appr .here)) | exact .tail (.appr (.appr .headR)) | exact .tail (.appr (.appr .app)) | exact .appr (.appr (.tail .here)) | exact .appr (.appr (.tail .headR)) | exact .appr (.appr (.tail .app)) | exact .appr (.appr (.appr .here)) | exact .appr (.appr (.appr .headR)) | exact .appr (.appr (.appr .app))) (brings_slice ksl43 (((own26.look (by repeat (first | exact .here | exact .headR | exact .app | refine .tail ?_ | refine .appr ?_))).take (k * 8)).cast (flat_take l k)) (by rw [dig_len, htk]) (one_digs _)) (by omega) (fun ba43 c43 N43 hown43 => ?_)
      refine ga_take (i := 9) (ls' := [true, true, true, true, true, true, true, true, true, true]) rfl (by kernel_rfl) rfl (fun _ _ _ => val_assign rfl) rfl rfl rfl ?_
      refine ga_done (by kernel_rfl) ?_
      refine gk_seq ?_
      refine gc_seq ?_
      refine gc_region ?_
      refine gl_cons (gs_val (val_move rfl) rfl rfl rfl ?_)
      refine gl_cons (gs_val (val_move rfl) rfl rfl rfl ?_)
      refine gl_cons (gs_pure (enters kcall89 (.cons rfl (.cons rfl .nil))) (cThrow_no ba26 n c26 l (by first | exact hn | (simp; omega)) (by omega) m h) rfl rfl rfl (fun _ _ => trivial) ?_)
      refine gl_cons (gs_val (val_move rfl) rfl rfl rfl ?_)
      refine gl_cons (gs_val (val_extract rfl rfl) rfl rfl rfl ?_)
      refine gl_cons (gs_val (val_extract rfl rfl) rfl rfl rfl ?_)
      refine gl_cons (gs_val (val_assign rfl) rfl rfl rfl ?_)
      refine gl_cons (gs_val (val_assign rfl) rfl rfl rfl ?_)
      refine gl_nil ?_
      refine gk_seq ?_
      refine gc_seq ?_
      refine gc_region ?_
      refine gl_cons (gs_val (val_move rfl) rfl rfl rfl ?_)
      refine gl_cons (gs_val (val_move rfl) rfl rfl rfl ?_)
      refine gl_cons (gs_pure (enters kcall89 (.cons rfl (.cons rfl .nil))) (cThrow_no ba43 (0 + (n - k) + k) c43 (l.drop k ++ l.take k) (by first | exact hn | (simp; omega)) (by omega) m h) rfl rfl rfl (fun _ _ => trivial) ?_)
      refine gl_cons (gs_val (val_move rfl) rfl rfl rfl ?_)
      refine gl_cons (gs_val (val_extract rfl rfl) rfl rfl rfl ?_)
      refine gl_cons (gs_val (val_extract rfl rfl) rfl rfl rfl ?_)
      refine gl_cons (gs_val (val_assign rfl) rfl rfl rfl ?_)
      refine gl_cons (gs_val (val_assign rfl) rfl rfl rfl ?_)
      refine gl_nil ?_
      refine gk_seq ?_
      refine gc_seq ?_
      refine gc_region ?_
      refine gl_cons (gs_val (val_move rfl) rfl rfl rfl ?_)
      refine gl_cons (gs_val (val_move rfl) rfl rfl rfl ?_)
      refine gl_cons (gs_pure (enters kcall38 (.cons rfl .nil)) (fromNum_spec 0#64) rfl rfl rfl (fun _ _ => trivial) ?_)
      refine gl_cons (gs_buildSlice (zs := [.int .u8 0, .int .u8 0, .int .u8 0, .int .u8 0, .int .u8 0, .int .u8 0, .int .u8 0, .int .u8 0]) ksl43 kze24 rfl rfl (.cons rfl .nil) (.cons rfl rfl rfl (by simp) (by first | ((with_reducible refine splice_all _ _ ?_); simp; done) | (simp only [splice, stL, digL, List.take_succ_cons, List.take_zero, List.drop_succ_cons, List.drop_zero, List.length_cons, List.length_nil, Nat.reduceAdd, Nat.reduceMul, Nat.zero_add, Nat.zero_mul, List.cons_append, List.nil_append]; exact rfl)) .nil) rfl rfl (fun b60 => ?_))
      refine gl_cons (gs_append ksl43 kze24 rfl rfl rfl rfl rfl rfl (hown43) (fun _ => by first | exact .here | exact .headR | exact .app | exact .tail .here | exact .tail .headR | exact .tail .app | exact .tail (.tail .here) | exact .tail (.tail .headR) | exact .tail (.tail .app) | exact .tail (.tail (.tail .here)) | exact .tail (.tail (.tail .headR)) | exact .tail (.tail (.tail .app)) | exact .tail (.tail (.tail (.tail .here))) | exact .tail (.tail (.tail (.tail .headR))) | exact .tail (.tail (.tail (.tail .app))) | exact .tail (.tail (.tail (.tail (.tail .here)))) | exact .tail (.tail (.tail (.tail (.tail .headR)))) | exact .tail (.tail (.tail (.tail (.tail .app)))) | exact .appr .here | exact .appr .headR | exact .appr .app | exact .tail (.appr .here) | exact .tail (.appr .headR) | exact .tail (.appr .app) | exact .tail (.tail (.appr .here)) | exact .tail (.tail (.appr .headR)) | exact .tail (.tail (.appr .app)) | exact .appr (.tail .here) | exact .appr (.tail .headR) | exact .appr (.tail .app) | exact .appr (.tail (.tail .here)) | exact .appr (.tail (.tail .headR)) | exact .appr (.tail (.tail .app)) | exact .appr (.appr .here) | exact .appr (.appr .headR) | exact .appr (.appr .app) | exact .tail (.appr (.appr .here)) | exact .tail (.appr (.appr .headR)) | exact .tail (.appr (.appr .app)) | exact .appr (.appr (.tail .here)) | exact .appr (.appr (.tail .headR)) | exact .appr (.appr (.tail .app)) | exact .appr (.appr (.appr .here)) | exact .appr (.appr (.appr .headR)) | exact .appr (.appr (.appr .app))) (brings_slice ksl43 (sees_all (by repeat (first | exact .head _ | refine .tail _ ?_ | refine List.mem_append_right _ ?_))) rfl (one_dig _)) (by omega) (fun ba61 c61 N61 hown61 => ?_))
      refine gl_cons (gs_pure (enters kcall89 (.cons rfl (.cons rfl .nil))) (cThrow_no ba61 (0 + (n - k) + k + 1) c61 ((l.drop k ++ l.take k) ++ [0#64]) (by first | exact hn | (simp; omega)) (by omega) m h) rfl rfl rfl (fun _ _ => trivial) ?_)
      refine gl_cons (gs_val (val_move rfl) rfl rfl rfl ?_)
      refine gl_cons (gs_val (val_extract rfl rfl) rfl rfl rfl ?_)
      refine gl_cons (gs_val (val_extract rfl rfl) rfl rfl rfl ?_)
      refine gl_cons (gs_val (val_assign rfl) rfl rfl rfl ?_)
      refine gl_cons (gs_val (val_assign rfl) rfl rfl rfl ?_)
      refine gl_nil ?_
      refine gk_seq ?_
      refine gc_seq ?_
      refine gc_region ?_
      refine gl_cons (gs_val (val_move rfl) rfl rfl rfl ?_)
      refine gl_cons (gs_val (val_geq rfl rfl) rfl rfl rfl ?_)
      refine gl_cons (gs_val (val_move rfl) rfl rfl rfl ?_)
      refine gx_split 67 rfl (fun h67 => ?_) (fun h67 => ?_)
      · skip
        refine gl_cons (gs_val (val_move rfl) rfl rfl rfl ?_)
        refine gl_cons (gs_val (val_no (val_leq rfl rfl) (by omega)) rfl rfl rfl ?_)
        refine gl_cons (gs_val (val_pick_t rfl rfl) rfl rfl rfl ?_)
        refine gl_cons (gs_val (val_assign rfl) rfl rfl rfl ?_)
        refine gl_nil ?_
        refine gk_seq ?_
        refine gc_seq ?_
        refine gc_region ?_
        refine gl_cons (gs_val (val_move rfl) rfl rfl rfl ?_)
        refine gl_cons (gs_val (val_move rfl) rfl rfl rfl ?_)
        refine gl_cons (gs_val (val_yes (val_eql rfl rfl) rfl) rfl rfl rfl ?_)
        refine gl_cons (gs_val (val_move rfl) rfl rfl rfl ?_)
        refine gl_cons (gs_val (val_move rfl) rfl rfl rfl ?_)
        refine gl_cons (gs_val (val_move rfl) rfl rfl rfl ?_)
        refine gl_cons (gs_val (val_yes (val_eql rfl rfl) rfl) rfl rfl rfl ?_)
        refine gl_cons (gs_val (val_pick_t rfl rfl) rfl rfl rfl ?_)
        refine gl_cons (gs_val (val_move rfl) rfl rfl rfl ?_)
        refine gl_cons (gs_val (val_move rfl) rfl rfl rfl ?_)
        refine gl_cons (gs_val (val_move rfl) rfl rfl rfl ?_)
        refine gl_cons (gs_val (val_yes (val_eql rfl rfl) rfl) rfl rfl rfl ?_)
        refine gl_cons (gs_val (val_pick_t rfl rfl) rfl rfl rfl ?_)
        refine gl_cons (gs_val (val_move rfl) rfl rfl rfl ?_)
        refine gl_cons (gs_val (val_move rfl) rfl rfl rfl ?_)
        refine gl_cons (gs_val (val_move rfl) rfl rfl rfl ?_)
        refine gl_cons (gs_val (val_yes (val_eql rfl rfl) rfl) rfl rfl rfl ?_)
        refine gl_cons (gs_val (val_pick_t rfl rfl) rfl rfl rfl ?_)
        refine gl_cons (gs_val (val_move rfl) rfl rfl rfl ?_)
        refine gl_cons (gs_val (val_move rfl) rfl rfl rfl ?_)
        refine gl_cons (gs_val (val_no (val_eql rfl rfl) (by decide)) rfl rfl rfl ?_)
        refine gl_cons (gs_val (val_move rfl) rfl rfl rfl ?_)
        refine gl_cons (gs_val (val_cast (v := .bool true) (val_eqlB kun4 rfl rfl) rfl) rfl rfl rfl ?_)
        refine gl_cons (gs_val (val_pick_t rfl rfl) rfl rfl rfl ?_)
        refine gl_cons (gs_val (val_move rfl) rfl rfl rfl ?_)
        refine gl_cons (gs_val (val_move rfl) rfl rfl rfl ?_)
        refine gl_cons (gs_val (val_move rfl) rfl rfl rfl ?_)
        refine gl_cons (gs_skip rfl rfl rfl ?_)
        refine gl_cons (gs_skip rfl rfl rfl ?_)
        refine gl_cons (gs_val (val_pick_f rfl rfl) rfl rfl rfl ?_)
        refine gl_cons (gs_val (val_move rfl) rfl rfl rfl ?_)
        refine gl_cons (gs_skip rfl rfl rfl ?_)
        refine gl_cons (gs_skip rfl rfl rfl ?_)
        refine gl_cons (gs_skip rfl rfl rfl ?_)
        refine gl_cons (gs_val (val_pick_f rfl rfl) rfl rfl rfl ?_)
        refine gl_cons (gs_val (val_move rfl) rfl rfl rfl ?_)
        refine gl_cons (gs_val (val_move rfl) rfl rfl rfl ?_)
        refine gl_cons (gs_val (val_not rfl) rfl rfl rfl ?_)
        refine gl_cons (gs_val (val_move rfl) rfl rfl rfl ?_)
        refine gl_cons (gs_val (val_move rfl) rfl rfl rfl ?_)
        refine gl_cons (gs_val (val_yes (val_eql rfl rfl) rfl) rfl rfl rfl ?_)
        refine gl_cons (gs_val (val_pick_t rfl rfl) rfl rfl rfl ?_)
        refine gl_cons (gs_val (val_pick_f rfl rfl) rfl rfl rfl ?_)
        refine gl_cons (gs_val (val_pick_t rfl rfl) rfl rfl rfl ?_)
        refine gl_cons (gs_val (val_assign rfl) rfl rfl rfl ?_)
        refine gl_nil ?_
        refine gk_seq ?_
        refine gc_ret ?_
        refine gk_ret rfl (resv_tmp rfl .nil) (List.nil_sublist _) ?_
        exact ⟨rfl, rfl⟩
      · skip
        refine gl_cons (gs_skip rfl rfl rfl ?_)
        refine gl_cons (gs_skip rfl rfl rfl ?_)
        refine gl_cons (gs_val (val_pick_f rfl rfl) rfl rfl rfl ?_)
        refine gl_cons (gs_val (val_assign rfl) rfl rfl rfl ?_)
        refine gl_nil ?_
        refine gk_seq ?_
        refine gc_seq ?_
        refine gc_region ?_
        refine gl_cons (gs_val (val_move rfl) rfl rfl rfl ?_)
        refine gl_cons (gs_val (val_move rfl) rfl rfl rfl ?_)
        refine gl_cons (gs_val (val_yes (val_eql rfl rfl) rfl) rfl rfl rfl ?_)
        refine gl_cons (gs_val (val_move rfl) rfl rfl rfl ?_)
        refine gl_cons (gs_val (val_move rfl) rfl rfl rfl ?_)
        refine gl_cons (gs_val (val_move rfl) rfl rfl rfl ?_)
        refine gl_cons (gs_val (val_yes (val_eql rfl rfl) rfl) rfl rfl rfl ?_)
        refine gl_cons (gs_val (val_pick_t rfl rfl) rfl rfl rfl ?_)
        refine gl_cons (gs_val (val_move rfl) rfl rfl rfl ?_)
        refine gl_cons (gs_val (val_move rfl) rfl rfl rfl ?_)
        refine gl_cons (gs_val (val_move rfl) rfl rfl rfl ?_)
        refine gl_cons (gs_val (val_yes (val_eql rfl rfl) rfl) rfl rfl rfl ?_)
        refine gl_cons (gs_val (val_pick_t rfl rfl) rfl rfl rfl ?_)
        refine gl_cons (gs_val (val_move rfl) rfl rfl rfl ?_)
        refine gl_cons (gs_val (val_move rfl) rfl rfl rfl ?_)
        refine gl_cons (gs_val (val_move rfl) rfl rfl rfl ?_)
        refine gl_cons (gs_val (val_yes (val_eql rfl rfl) rfl) rfl rfl rfl ?_)
        refine gl_cons (gs_val (val_pick_t rfl rfl) rfl rfl rfl ?_)
        refine gl_cons (gs_val (val_move rfl) rfl rfl rfl ?_)
        refine gl_cons (gs_val (val_move rfl) rfl rfl rfl ?_)
        refine gl_cons (gs_val (val_no (val_eql rfl rfl) (by decide)) rfl rfl rfl ?_)
        refine gl_cons (gs_val (val_move rfl) rfl rfl rfl ?_)
        refine gl_cons (gs_val (val_cast (v := .bool true) (val_eqlB kun4 rfl rfl) rfl) rfl rfl rfl ?_)
        refine gl_cons (gs_val (val_pick_t rfl rfl) rfl rfl rfl ?_)
        refine gl_cons (gs_val (val_move rfl) rfl rfl rfl ?_)
        refine gl_cons (gs_val (val_move rfl) rfl rfl rfl ?_)
        refine gl_cons (gs_val (val_move rfl) rfl rfl rfl ?_)
        refine gl_cons (gs_skip rfl rfl rfl ?_)
        refine gl_cons (gs_skip rfl rfl rfl ?_)
        refine gl_cons (gs_val (val_pick_f rfl rfl) rfl rfl rfl ?_)
        refine gl_cons (gs_val (val_move rfl) rfl rfl rfl ?_)
        refine gl_cons (gs_skip rfl rfl rfl ?_)
        refine gl_cons (gs_skip rfl rfl rfl ?_)
        refine gl_cons (gs_skip rfl rfl rfl ?_)
        refine gl_cons (gs_val (val_pick_f rfl rfl) rfl rfl rfl ?_)
        refine gl_cons (gs_val (val_move rfl) rfl rfl rfl ?_)
        refine gl_cons (gs_val (val_move rfl) rfl rfl rfl ?_)
        refine gl_cons (gs_val (val_not rfl) rfl rfl rfl ?_)
        refine gl_cons (gs_val (val_move rfl) rfl rfl rfl ?_)
        refine gl_cons (gs_val (val_move rfl) rfl rfl rfl ?_)
        refine gl_cons (gs_val (val_yes (val_eql rfl rfl) rfl) rfl rfl rfl ?_)
        refine gl_cons (gs_val (val_pick_t rfl rfl) rfl rfl rfl ?_)
        refine gl_cons (gs_val (val_pick_f rfl rfl) rfl rfl rfl ?_)
        refine gl_cons (gs_val (val_pick_t rfl rfl) rfl rfl rfl ?_)
        refine gl_cons (gs_val (val_assign rfl) rfl rfl rfl ?_)
        refine gl_nil ?_
        refine gk_seq ?_
        refine gc_ret ?_
        refine gk_ret rfl (resv_tmp rfl .nil) (List.nil_sublist _) ?_
        exact ⟨rfl, rfl⟩
    · obtain ⟨k, hk, hkn, htk, hdk⟩ : ∃ k : Nat, (0 : Int) = (k : Int) ∧ k ≤ n ∧ (l.take k).length = k ∧ (l.drop k).length = n - k := ⟨0, rfl, Nat.zero_le _, rfl, by rw [List.length_drop, hn]⟩
      refine gc_skip ?_
      refine gk_seq ?_
      refine gc_seq ?_
      refine ga_start (m := 10) (ls := [false, false, false, false, false, false, false, false, false, false]) kmixed rfl rfl ?_
      refine ga_take (i := 1) (ls' := [false, true, false, false, false, false, false, false, false, false]) rfl (by kernel_rfl) rfl (fun _ _ _ => val_move rfl) rfl rfl rfl ?_
      refine ga_take (i := 2) (ls' := [false, true, true, false, false, false, false, false, false, false]) rfl (by kernel_rfl) rfl (fun _ _ _ => val_cast (v := I64 (k : Int)) (val_move rfl) (by first | rfl | exact congrArg I64 hk)) rfl rfl rfl ?_
      refine ga_take (i := 3) (ls' := [false, true, true, true, false, false, false, false, false, false]) rfl (by kernel_rfl) rfl (fun _ _ _ => val_sliceL (l := k) ksl43 rfl rfl rfl (by omega)) rfl rfl rfl ?_
      refine ga_take (i := 5) (ls' := [false, true, true, true, false, true, false, false, false, false]) rfl (by kernel_rfl) rfl (fun _ _ _ => val_move rfl) rfl rfl rfl ?_
      refine ga_take (i := 6) (ls' := [false, true, true, true, false, true, true, false, false, false]) rfl (by kernel_rfl) rfl (fun _ _ _ => val_cast (v := I64 (k : Int)) (val_move rfl) (by first | rfl | exact congrArg I64 hk)) rfl rfl rfl ?_
      refine ga_take (i := 7) (ls' := [false, true, true, true, false, true, true, true, false, false]) rfl (by kernel_rfl) rfl (fun _ _ _ => val_sliceH (h := k) ksl43 rfl rfl rfl (Nat.le_trans (by omega) own26.cap)) rfl rfl rfl ?_
      refine ga_branch (rs := [0]) (by kernel_rfl) rfl (.cons (ls' := [true, true, true, true, false, true, true, true, false, false]) rfl rfl ?_ .nil)
      refine gs_buildSlice (zs := []) ksl43 kze24 rfl rfl .nil .nil rfl rfl (fun b35 => ?_)
      refine ga_branch (rs := [4]) (by kernel_rfl) rfl (.cons (ls' := [true, true, true, true, true, true, true, true, false, false]) rfl rfl ?_ .nil)
      refine gs_append ksl43 kze24 rfl rfl rfl rfl rfl rfl (own_lit (xs := []) rfl) (fun _ => by first | exact .here | exact .headR | exact .app | exact .tail .here | exact .tail .headR | exact .tail .app | exact .tail (.tail .here) | exact .tail (.tail .headR) | exact .tail (.tail .app) | exact .tail (.tail (.tail .here)) | exact .tail (.tail (.tail .headR)) | exact .tail (.tail (.tail .app)) | exact .tail (.tail (.tail (.tail .here))) | exact .tail (.tail (.tail (.tail .headR))) | exact .tail (.tail (.tail (.tail .app))) | exact .tail (.tail (.tail (.tail (.tail .here)))) | exact .tail (.tail (.tail (.tail (.tail .headR)))) | exact .tail (.tail (.tail (.tail (.tail .app)))) | exact .appr .here | exact .appr .headR | exact .appr .app | exact .tail (.appr .here) | exact .tail (.appr .headR) | exact .tail (.appr .app) | exact .tail (.tail (.appr .here)) | exact .tail (.tail (.appr .headR)) | exact .tail (.tail (.appr .app)) | exact .appr (.tail .here) | exact .appr (.tail .headR) | exact .appr (.tail .app) | exact .appr (.tail (.tail .here)) | exact .appr (.tail (.tail .headR)) | exact .appr (.tail (.tail .app)) | exact .appr (.appr .here) | exact .appr (.appr .headR) | exact .appr (.appr .app) | exact .tail (.appr (.appr .here)) | exact .tail (.appr (.appr .headR)) | exact .tail (.appr (.appr .app)) | exact .appr (.appr (.tail .here)) | exact .appr (.appr (.tail .headR)) | exact .appr (.appr (.tail .app)) | exact .appr (.appr (.appr .here)) | exact .appr (.appr (.appr .headR)) | exact .appr (.appr (.appr .app))) (brings_slice ksl43 (((own26.look (by repeat (first | exact .here | exact .headR | exact .app | refine .tail ?_ | refine .appr ?_))).sl (cap := c26) (l := k) (size := 8) (by rw [dig_len, hn]; have := own26.cap; omega)).cast (flat_drop l k)) (by rw [dig_len, hdk]) (one_digs _)) (by omega) (fun ba39 c39 N39 hown39 => ?_)
      refine ga_branch (rs := [8]) (by kernel_rfl) rfl (.cons (ls' := [true, true, true, true, true, true, true, true, true, false]) rfl rfl ?_ .nil)
      refine gs_append ksl43 kze24 rfl rfl rfl rfl rfl rfl (hown39) (fun _ => by first | exact .here | exact .headR | exact .app | exact .tail .here | exact .tail .headR | exact .tail .app | exact .tail (.tail .here) | exact .tail (.tail .headR) | exact .tail (.tail .app) | exact .tail (.tail (.tail .here)) | exact .tail (.tail (.tail .headR)) | exact .tail (.tail (.tail .app)) | exact .tail (.tail (.tail (.tail .here))) | exact .tail (.tail (.tail (.tail .headR))) | exact .tail (.tail (.tail (.tail .app))) | exact .tail (.tail (.tail (.tail (.tail .here)))) | exact .tail (.tail (.tail (.tail (.tail .headR)))) | exact .tail (.tail (.tail (.tail (.tail .app)))) | exact .appr .here | exact .appr .headR | exact .appr .app | exact .tail (.appr .here) | exact .tail (.appr .headR) | exact .tail (.appr .app) | exact .tail (.tail (.appr .here)) | exact .tail (.tail (.appr .headR)) | exact .tail (.tail (.appr .app)) | exact .appr (.tail .here) | exact .appr (.tail .headR) | exact .appr (.tail .app) | exact .appr (.tail (.tail .here)) | exact .appr (.tail (.tail .headR)) | exact .appr (.tail (.tail .app)) | exact .appr (.appr .here) | exact .appr (.appr .headR) | exact .appr (.appr .app) | exact .tail (.appr (.appr .here)) | exact .tail (.appr (.appr .headR)) | exact .tail (.appr (.appr .app)) | exact .appr (.appr (.tail .here)) | exact .appr (.appr (.tail .headR)) | exact .appr (.appr (.tail .app)) | exact .appr (.appr (.appr .here)) | exact .appr (.appr (.appr .headR)) | exact .appr (.appr (.appr .app))) (brings_slice ksl43 (((own26.look (by repeat (first | exact .here | exact .headR | exact .app | refine .tail ?_ | refine .appr ?_))).take (k * 8)).cast (flat_take l k)) (by rw [dig_len, htk]) (one_digs _)) (by omega) (fun ba43 c43 N43 hown43 => ?_)
      refine ga_take (i := 9) (ls' := [true, true, true, true, true, true, true, true, true, true]) rfl (by kernel_rfl) rfl (fun _ _ _ => val_assign rfl) rfl rfl rfl ?_
      refine ga_done (by kernel_rfl) ?_
      refine gk_seq ?_
      refine gc_seq ?_
      refine gc_region ?_
      refine gl_cons (gs_val (val_move rfl) rfl rfl rfl ?_)
      refine gl_cons (gs_val (val_move rfl) rfl rfl rfl ?_)
      refine gl_cons (gs_pure (enters kcall89 (.cons rfl (.cons rfl .nil))) (cThrow_no ba26 n c26 l (by first | exact hn | (simp; omega)) (by omega) m h) rfl rfl rfl (fun _ _ => trivial) ?_)
      refine gl_cons (gs_val (val_move rfl) rfl rfl rfl ?_)
      refine gl_cons (gs_val (val_extract rfl rfl) rfl rfl rfl ?_)
      refine gl_cons (gs_val (val_extract rfl rfl) rfl rfl rfl ?_)
      refine gl_cons (gs_val (val_assign rfl) rfl rfl rfl ?_)
      refine gl_cons (gs_val (val_assign rfl) rfl rfl rfl ?_)
      refine gl_nil ?_
      refine gk_seq ?_
      refine gc_seq ?_
      refine gc_region ?_
      refine gl_cons (gs_val (val_move rfl) rfl rfl rfl ?_)
      refine gl_cons (gs_val (val_move rfl) rfl rfl rfl ?_)
      refine gl_cons (gs_pure (enters kcall89 (.cons rfl (.cons rfl .nil))) (cThrow_no ba43 (0 + (n - k) + k) c43 (l.drop k ++ l.take k) (by first | exact hn | (simp; omega)) (by omega) m h) rfl rfl rfl (fun _ _ => trivial) ?_)
      refine gl_cons (gs_val (val_move rfl) rfl rfl rfl ?_)
      refine gl_cons (gs_val (val_extract rfl rfl) rfl rfl rfl ?_)
      refine gl_cons (gs_val (val_extract rfl rfl) rfl rfl rfl ?_)
      refine gl_cons (gs_val (val_assign rfl) rfl rfl rfl ?_)
      refine gl_cons (gs_val (val_assign rfl) rfl rfl rfl ?_)
      refine gl_nil ?_
      refine gk_seq ?_
      refine gc_seq ?_
      refine gc_region ?_
      refine gl_cons (gs_val (val_move rfl) rfl rfl rfl ?_)
      refine gl_cons (gs_val (val_move rfl) rfl rfl rfl ?_)
      refine gl_cons (gs_pure (enters kcall38 (.cons rfl .nil)) (fromNum_spec 0#64) rfl rfl rfl (fun _ _ => trivial) ?_)
      refine gl_cons (gs_buildSlice (zs := [.int .u8 0, .int .u8 0, .int .u8 0, .int .u8 0, .int .u8 0, .int .u8 0, .int .u8 0, .int .u8 0]) ksl43 kze24 rfl rfl (.cons rfl .nil) (.cons rfl rfl rfl (by simp) (by first | ((with_reducible refine splice_all _ _ ?_); simp; done) | (simp only [splice, stL, digL, List.take_succ_cons, List.take_zero, List.drop_succ_cons, List.drop_zero, List.length_cons, List.length_nil, Nat.reduceAdd, Nat.reduceMul, Nat.zero_add, Nat.zero_mul, List.cons_append, List.nil_append]; exact rfl)) .nil) rfl rfl (fun b60 => ?_))
      refine gl_cons (gs_append ksl43 kze24 rfl rfl rfl rfl rfl rfl (hown43) (fun _ => by first | exact .here | exact .headR | exact .app | exact .tail .here | exact .tail .headR | exact .tail .app | exact .tail (.tail .here) | exact .tail (.tail .headR) | exact .tail (.tail .app) | exact .tail (.tail (.tail .here)) | exact .tail (.tail (.tail .headR)) | exact .tail (.tail (.tail .app)) | exact .tail (.tail (.tail (.tail .here))) | exact .tail (.tail (.tail (.tail .headR))) | exact .tail (.tail (.tail (.tail .app))) | exact .tail (.tail (.tail (.tail (.tail .here)))) | exact .tail (.tail (.tail (.tail (.tail .headR)))) | exact .tail (.tail (.tail (.tail (.tail .app)))) | exact .appr .here | exact .appr .headR | exact .appr .app | exact .tail (.appr .here) | exact .tail (.appr .headR) | exact .tail (.appr .app) | exact .tail (.tail (.appr .here)) | exact .tail (.tail (.appr .headR)) | exact .tail (.tail (.appr .app)) | exact .appr (.tail .here) | exact .appr (.tail .headR) | exact .appr (.tail .app) | exact .appr (.tail (.tail .here)) | exact .appr (.tail (.tail .headR)) | exact .appr (.tail (.tail .app)) | exact .appr (.appr .here) | exact .appr (.appr .headR) | exact .appr (.appr .app) | exact .tail (.appr (.appr .here)) | exact .tail (.appr (.appr .headR)) | exact .tail (.appr (.appr .app)) | exact .appr (.appr (.tail .here)) | exact .appr (.appr (.tail .headR)) | exact .appr (.appr (.tail .app)) | exact .appr (.appr (.appr .here)) | exact .appr (.appr (.appr .headR)) | exact .appr (.appr (.appr .app))) (brings_slice ksl43 (sees_all (by repeat (first | exact .head _ | refine .tail _ ?_ | refine List.mem_append_right _ ?_))) rfl (one_dig _)) (by omega) (fun ba61 c61 N61 hown61 => ?_))
      refine gl_cons (gs_pure (enters kcall89 (.cons rfl (.cons rfl .nil))) (cThrow_no ba61 (0 + (n - k) + k + 1) c61 ((l.drop k ++ l.take k) ++ [0#64]) (by first | exact hn | (simp; omega)) (by omega) m h) rfl rfl rfl (fun _ _ => trivial) ?_)
      refine gl_cons (gs_val (val_move rfl) rfl rfl rfl ?_)
      refine gl_cons (gs_val (val_extract rfl rfl) rfl rfl rfl ?_)
      refine gl_cons (gs_val (val_extract rfl rfl) rfl rfl rfl ?_)
      refine gl_cons (gs_val (val_assign rfl) rfl rfl rfl ?_)
      refine gl_cons (gs_val (val_assign rfl) rfl rfl rfl ?_)
      refine gl_nil ?_
      refine gk_seq ?_
      refine gc_seq ?_
      refine gc_region ?_
      refine gl_cons (gs_val (val_move rfl) rfl rfl rfl ?_)
      refine gl_cons (gs_val (val_geq rfl rfl) rfl rfl rfl ?_)
      refine gl_cons (gs_val (val_move rfl) rfl rfl rfl ?_)
      refine gx_split 67 rfl (fun h67 => ?_) (fun h67 => ?_)
      · skip
        refine gl_cons (gs_val (val_move rfl) rfl rfl rfl ?_)
        refine gl_cons (gs_val (val_no (val_leq rfl rfl) (by omega)) rfl rfl rfl ?_)
        refine gl_cons (gs_val (val_pick_t rfl rfl) rfl rfl rfl ?_)
        refine gl_cons (gs_val (val_assign rfl) rfl rfl rfl ?_)
        refine gl_nil ?_
        refine gk_seq ?_
        refine gc_seq ?_
        refine gc_region ?_
        refine gl_cons (gs_val (val_move rfl) rfl rfl rfl ?_)
        refine gl_cons (gs_val (val_move rfl) rfl rfl rfl ?_)
        refine gl_cons (gs_val (val_yes (val_eql rfl rfl) rfl) rfl rfl rfl ?_)
        refine gl_cons (gs_val (val_move rfl) rfl rfl rfl ?_)
        refine gl_cons (gs_val (val_move rfl) rfl rfl rfl ?_)
        refine gl_cons (gs_val (val_move rfl) rfl rfl rfl ?_)
        refine gl_cons (gs_val (val_yes (val_eql rfl rfl) rfl) rfl rfl rfl ?_)
        refine gl_cons (gs_val (val_pick_t rfl rfl) rfl rfl rfl ?_)
        refine gl_cons (gs_val (val_move rfl) rfl rfl rfl ?_)
        refine gl_cons (gs_val (val_move rfl) rfl rfl rfl ?_)
        refine gl_cons (gs_val (val_move rfl) rfl rfl rfl ?_)
        refine gl_cons (gs_val (val_yes (val_eql rfl rfl) rfl) rfl rfl rfl ?_)
        refine gl_cons (gs_val (val_pick_t rfl rfl) rfl rfl rfl ?_)
        refine gl_cons (gs_val (val_move rfl) rfl rfl rfl ?_)
        refine gl_cons (gs_val (val_move rfl) rfl rfl rfl ?_)
        refine gl_cons (gs_val (val_move rfl) rfl rfl rfl ?_)
        refine gl_cons (gs_val (val_yes (val_eql rfl rfl) rfl) rfl rfl rfl ?_)
        refine gl_cons (gs_val (val_pick_t rfl rfl) rfl rfl rfl ?_)
        refine gl_cons (gs_val (val_move rfl) rfl rfl rfl ?_)
        refine gl_cons (gs_val (val_move rfl) rfl rfl rfl ?_)
        refine gl_cons (gs_val (val_no (val_eql rfl rfl) (by decide)) rfl rfl rfl ?_)
        refine gl_cons (gs_val (val_move rfl) rfl rfl rfl ?_)
        refine gl_cons (gs_val (val_cast (v := .bool true) (val_eqlB kun4 rfl rfl) rfl) rfl rfl rfl ?_)
        refine gl_cons (gs_val (val_pick_t rfl rfl) rfl rfl rfl ?_)
        refine gl_cons (gs_val (val_move rfl) rfl rfl rfl ?_)
        refine gl_cons (gs_val (val_move rfl) rfl rfl rfl ?_)
        refine gl_cons (gs_val (val_move rfl) rfl rfl rfl ?_)
        refine gl_cons (gs_skip rfl rfl rfl ?_)
        refine gl_cons (gs_skip rfl rfl rfl ?_)
        refine gl_cons (gs_val (val_pick_f rfl rfl) rfl rfl rfl ?_)
        refine gl_cons (gs_val (val_move rfl) rfl rfl rfl ?_)
        refine gl_cons (gs_skip rfl rfl rfl ?_)
        refine gl_cons (gs_skip rfl rfl rfl ?_)
        refine gl_cons (gs_skip rfl rfl rfl ?_)
        refine gl_cons (gs_val (val_pick_f rfl rfl) rfl rfl rfl ?_)
        refine gl_cons (gs_val (val_move rfl) rfl rfl rfl ?_)
        refine gl_cons (gs_val (val_move rfl) rfl rfl rfl ?_)
        refine gl_cons (gs_val (val_not rfl) rfl rfl rfl ?_)
        refine gl_cons (gs_val (val_move rfl) rfl rfl rfl ?_)
        refine gl_cons (gs_val (val_move rfl) rfl rfl rfl ?_)
        refine gl_cons (gs_val (val_yes (val_eql rfl rfl) rfl) rfl rfl rfl ?_)
        refine gl_cons (gs_val (val_pick_t rfl rfl) rfl rfl rfl ?_)
        refine gl_cons (gs_val (val_pick_f rfl rfl) rfl rfl rfl ?_)
        refine gl_cons (gs_val (val_pick_t rfl rfl) rfl rfl rfl ?_)
        refine gl_cons (gs_val (val_assign rfl) rfl rfl rfl ?_)
        refine gl_nil ?_
        refine gk_seq ?_
        refine gc_ret ?_
        refine gk_ret rfl (resv_tmp rfl .nil) (List.nil_sublist _) ?_
        exact ⟨rfl, rfl⟩
      · skip
        refine gl_cons (gs_skip rfl rfl rfl ?_)
        refine gl_cons (gs_skip rfl rfl rfl ?_)
        refine gl_cons (gs_val (val_pick_f rfl rfl) rfl rfl rfl ?_)
        refine gl_cons (gs_val (val_assign rfl) rfl rfl rfl ?_)
        refine gl_nil ?_
        refine gk_seq ?_
        refine gc_seq ?_
        refine gc_region ?_
        refine gl_cons (gs_val (val_move rfl) rfl rfl rfl ?_)
        refine gl_cons (gs_val (val_move rfl) rfl rfl rfl ?_)
        refine gl_cons (gs_val (val_yes (val_eql rfl rfl) rfl) rfl rfl rfl ?_)
        refine gl_cons (gs_val (val_move rfl) rfl rfl rfl ?_)
        refine gl_cons (gs_val (val_move rfl) rfl rfl rfl ?_)
        refine gl_cons (gs_val (val_move rfl) rfl rfl rfl ?_)
        refine gl_cons (gs_val (val_yes (val_eql rfl rfl) rfl) rfl rfl rfl ?_)
        refine gl_cons (gs_val (val_pick_t rfl rfl) rfl rfl rfl ?_)
        refine gl_cons (gs_val (val_move rfl) rfl rfl rfl ?_)
        refine gl_cons (gs_val (val_move rfl) rfl rfl rfl ?_)
        refine gl_cons (gs_val (val_move rfl) rfl rfl rfl ?_)
        refine gl_cons (gs_val (val_yes (val_eql rfl rfl) rfl) rfl rfl rfl ?_)
        refine gl_cons (gs_val (val_pick_t rfl rfl) rfl rfl rfl ?_)
        refine gl_cons (gs_val (val_move rfl) rfl rfl rfl ?_)
        refine gl_cons (gs_val (val_move rfl) rfl rfl rfl ?_)
        refine gl_cons (gs_val (val_move rfl) rfl rfl rfl ?_)
        refine gl_cons (gs_val (val_yes (val_eql rfl rfl) rfl) rfl rfl rfl ?_)
        refine gl_cons (gs_val (val_pick_t rfl rfl) rfl rfl rfl ?_)
        refine gl_cons (gs_val (val_move rfl) rfl rfl rfl ?_)
        refine gl_cons (gs_val (val_move rfl) rfl rfl rfl ?_)
        refine gl_cons (gs_val (val_no (val_eql rfl rfl) (by decide)) rfl rfl rfl ?_)
        refine gl_cons (gs_val (val_move rfl) rfl rfl rfl ?_)
        refine gl_cons (gs_val (val_cast (v := .bool true) (val_eqlB kun4 rfl rfl) rfl) rfl rfl rfl ?_)
        refine gl_cons (gs_val (val_pick_t rfl rfl) rfl rfl rfl ?_)
        refine gl_cons (gs_val (val_move rfl) rfl rfl rfl ?_)
        refine gl_cons (gs_val (val_move rfl) rfl rfl rfl ?_)
        refine gl_cons (gs_val (val_move rfl) rfl rfl rfl ?_)
        refine gl_cons (gs_skip rfl rfl rfl ?_)
        refine gl_cons (gs_skip rfl rfl rfl ?_)
        refine gl_cons (gs_val (val_pick_f rfl rfl) rfl rfl rfl ?_)
        refine gl_cons (gs_val (val_move rfl) rfl rfl rfl ?_)
        refine gl_cons (gs_skip rfl rfl rfl ?_)
        refine gl_cons (gs_skip rfl rfl rfl ?_)
        refine gl_cons (gs_skip rfl rfl rfl ?_)
        refine gl_cons (gs_val (val_pick_f rfl rfl) rfl rfl rfl ?_)
        refine gl_cons (gs_val (val_move rfl) rfl rfl rfl ?_)
        refine gl_cons (gs_val (val_move rfl) rfl rfl rfl ?_)
        refine gl_cons (gs_val (val_not rfl) rfl rfl rfl ?_)
        refine gl_cons (gs_val (val_move rfl) rfl rfl rfl ?_)
        refine gl_cons (gs_val (val_move rfl) rfl rfl rfl ?_)
        refine gl_cons (gs_val (val_yes (val_eql rfl rfl) rfl) rfl rfl rfl ?_)
        refine gl_cons (gs_val (val_pick_t rfl rfl) rfl rfl rfl ?_)
        refine gl_cons (gs_val (val_pick_f rfl rfl) rfl rfl rfl ?_)
        refine gl_cons (gs_val (val_pick_t rfl rfl) rfl rfl rfl ?_)
        refine gl_cons (gs_val (val_assign rfl) rfl rfl rfl ?_)
        refine gl_nil ?_
        refine gk_seq ?_
        refine gc_ret ?_
        refine gk_ret rfl (resv_tmp rfl .nil) (List.nil_sublist _) ?_
        exact ⟨rfl, rfl⟩

theorem chanceTurned_walk (m : Int) (ba : Option Addr) (n cap : Nat) (l : List (BitVec 64)) (hn : l.length = n) (tn : UInt8) : Pure Try.prog 31 ([I64 m, .slice ba n cap, U8 tn]).toArray (fun w => Row w [] ba (l.flatMap digL)) (.bool true) := by
  by_cases h : Sides m
  · exact turned_ok m ba n cap l hn tn h
  · exact turned_no m ba n cap l hn tn h

end Go.Proofs.Ythmepionpjkcgaa
