/- The walk of functions of the program: what each computes, for every input. -/
import Derived.Test.YtddckbhlfeegoaaWBFacts
import Derived.Test.YtddckbhlfeegoaaWBtower1
namespace Go.Proofs.Ytddckbhlfeegoaa
open Go Go.Eng
set_option linter.unusedVariables false
set_option linter.unusedSimpArgs false

/-- slices.Clone[[]byte,byte] -/
theorem cloneB_nil (n c : Nat) (hn : n = 0) : Makes Try.prog 154 ([.slice none n c]).toArray (fun _ => True) (fun s : Option Addr × Nat × List Ent => Own 5 1 s.1 n s.2.1 [] s.2.2) (fun s => .slice s.1 n s.2.1) (fun s => s.2.2) := by
  refine spec_walk (n := 8) Try.func154 rfl rfl rfl (fun w0 hpre => ?_)
  refine gc_seq ?_
  refine gc_region ?_
  refine gl_cons (gs_val (val_assign rfl) rfl rfl rfl ?_)
  refine gl_nil ?_
  refine gk_seq ?_
  refine gc_seq ?_
  refine gc_seq ?_
  refine gc_region ?_
  refine gl_cons (gs_val (val_move rfl) rfl rfl rfl ?_)
  refine gl_cons (gs_val (val_eqlNilSli kun54 rfl rfl) rfl rfl rfl ?_)
  refine gl_nil ?_
  refine gk_seq ?_
  refine gc_true rfl ?_
  refine gc_seq ?_
  refine gc_region ?_
  refine gl_cons (gs_val (val_assign rfl) rfl rfl rfl ?_)
  refine gl_nil ?_
  refine gk_seq ?_
  refine gc_ret ?_
  refine gk_seq_ret ?_
  refine gk_ret rfl (resv_tmp rfl .nil) (List.nil_sublist _) ?_
  subst hn; exact ⟨(none, 0, []), .nil, rfl, rfl⟩

/-- slices.Clone[[]byte,byte] -/
theorem cloneB_some (a : Addr) (n c : Nat) (l : List UInt8) (hn : l.length = n) (hl : n ≤ 1048576) : Makes Try.prog 154 ([.slice (some a) n c]).toArray (fun w => Row w [] (some a) (l.map U8)) (fun s : Option Addr × Nat × List Ent => Own 5 1 s.1 n s.2.1 (l.map U8) s.2.2) (fun s => .slice s.1 n s.2.1) (fun s => s.2.2) := by
  refine spec_walk (n := 8) Try.func154 rfl rfl rfl (fun w0 hpre => ?_)
  refine gc_seq ?_
  refine gc_region ?_
  refine gl_cons (gs_val (val_assign rfl) rfl rfl rfl ?_)
  refine gl_nil ?_
  refine gk_seq ?_
  refine gc_seq ?_
  refine gc_seq ?_
  refine gc_region ?_
  refine gl_cons (gs_val (val_move rfl) rfl rfl rfl ?_)
  refine gl_cons (gs_val (val_eqlNilSli kun54 rfl rfl) rfl rfl rfl ?_)
  refine gl_nil ?_
  refine gk_seq ?_
  refine gc_false rfl ?_
  refine gc_skip ?_
  refine gk_seq ?_
  refine gc_seq ?_
  refine gc_region ?_
  refine gl_cons (gs_buildSlice (zs := []) ksl54 kze5 rfl rfl .nil .nil rfl rfl (fun b5 => ?_))
  refine gl_cons (gs_val (val_move rfl) rfl rfl rfl ?_)
  refine gl_cons (gs_append ksl54 kze5 rfl rfl rfl rfl rfl rfl (own_lit (xs := []) rfl) (fun _ => by first | exact .here | exact .headR | exact .app | exact .tail .here | exact .tail .headR | exact .tail .app | exact .tail (.tail .here) | exact .tail (.tail .headR) | exact .tail (.tail .app) | exact .tail (.tail (.tail .here)) | exact .tail (.tail (.tail .headR)) | exact .tail (.tail (.tail .app)) | exact .tail (.tail (.tail (.tail .here))) | exact .tail (.tail (.tail (.tail .headR))) | exact .tail (.tail (.tail (.tail .app))) | exact .tail (.tail (.tail (.tail (.tail .here)))) | exact .tail (.tail (.tail (.tail (.tail .headR)))) | exact .tail (.tail (.tail (.tail (.tail .app)))) | exact .appr .here | exact .appr .headR | exact .appr .app | exact .tail (.appr .here) | exact .tail (.appr .headR) | exact .tail (.appr .app) | exact .tail (.tail (.appr .here)) | exact .tail (.tail (.appr .headR)) | exact .tail (.tail (.appr .app)) | exact .appr (.tail .here) | exact .appr (.tail .headR) | exact .appr (.tail .app) | exact .appr (.tail (.tail .here)) | exact .appr (.tail (.tail .headR)) | exact .appr (.tail (.tail .app)) | exact .appr (.appr .here) | exact .appr (.appr .headR) | exact .appr (.appr .app) | exact .tail (.appr (.appr .here)) | exact .tail (.appr (.appr .headR)) | exact .tail (.appr (.appr .app)) | exact .appr (.appr (.tail .here)) | exact .appr (.appr (.tail .headR)) | exact .appr (.appr (.tail .app)) | exact .appr (.appr (.appr .here)) | exact .appr (.appr (.appr .headR)) | exact .appr (.appr (.appr .app))) (brings_slice ksl54 (sees_row hpre) (by rw [List.length_map, hn, Nat.mul_one]) (one_map (fun _ => rfl) _)) (by omega) (fun ba7 c7 N7 hown7 => ?_))
  refine gl_cons (gs_val (val_assign rfl) rfl rfl rfl ?_)
  refine gl_nil ?_
  refine gk_seq ?_
  refine gc_ret ?_
  refine gk_ret rfl (resv_tmp rfl .nil) (List.Sublist.refl _) ?_
  exact ⟨(ba7, c7, N7), by have := hown7; rwa [Nat.zero_add] at this, by rw [Nat.zero_add]; rfl, rfl⟩

theorem cloneB_spec (ba : Option Addr) (n c : Nat) (l : List UInt8) (hn : l.length = n) (hl : n ≤ 1048576) : Makes Try.prog 154 ([.slice ba n c]).toArray (fun w => Row w [] ba (l.map U8)) (fun s : Option Addr × Nat × List Ent => Own 5 1 s.1 n s.2.1 (l.map U8) s.2.2) (fun s => .slice s.1 n s.2.1) (fun s => s.2.2) := by
  cases ba with
  | none =>
    intro w0 h1 h2 h3
    obtain rfl := row_none h3
    obtain rfl : n = 0 := hn.symm
    exact cloneB_nil 0 c rfl w0 h1 h2 trivial
  | some a => exact cloneB_some a n c l hn hl

/-- (baize/tower.Appointment).clone -/
theorem apClone_spec (h : BitVec 64) (nb : Int) (ba : Option Addr) (n c : Nat) (l : List UInt8) (hn : l.length = n) (hl : n ≤ 1048576) : Makes Try.prog 123 ([apV h nb (.slice ba n c)]).toArray (fun w => Row w [] ba (l.map U8)) (fun s : Option Addr × Nat × List Ent => Own 5 1 s.1 n s.2.1 (l.map U8) s.2.2) (fun s => apV h nb (.slice s.1 n s.2.1)) (fun s => s.2.2) := by
  refine spec_walk (n := 8) Try.func123 rfl rfl rfl (fun w0 hpre => ?_)
  refine gc_seq ?_
  refine gc_region ?_
  refine gl_cons (gs_box rfl rfl rfl rfl (fun b1 => ?_))
  refine gl_cons (gs_alloc kze70 rfl rfl rfl (fun b2 => ?_))
  refine gl_nil ?_
  refine gk_seq ?_
  refine gc_seq ?_
  refine gc_region ?_
  refine gl_cons (gs_val (val_fieldAddr kfo70_2 rfl) rfl rfl rfl ?_)
  refine gl_cons (gs_val (val_load1 kag54 rfl (sees_mem (by repeat (first | exact .head _ | refine .tail _ ?_ | refine List.mem_append_right _ ?_))) rfl) rfl rfl rfl ?_)
  refine gl_cons (gs_makes (enters kcall154 (.cons rfl .nil)) (cloneB_spec ba n c l hn hl) rfl rfl rfl (row_of_sees (sees_row hpre)) (fun ⟨ba5, c5, N5⟩ h5 => ?_))
  refine gx_perm List.perm_append_comm ?_
  refine gl_cons (gs_val (val_fieldAddr kfo70_2 rfl) rfl rfl rfl ?_)
  refine gl_cons (gs_store ksz54 rfl rfl rfl rfl rfl rfl (by first | exact .head | exact .tail .head | exact .tail (.tail .head) | exact .tail (.tail (.tail .head)) | exact .tail (.tail (.tail (.tail .head))) | exact .tail (.tail (.tail (.tail (.tail .head))))) (by simp) (by first | ((with_reducible refine splice_all _ _ ?_); simp; done) | (simp only [splice, stL, digL, List.take_succ_cons, List.take_zero, List.drop_succ_cons, List.drop_zero, List.length_cons, List.length_nil, Nat.reduceAdd, Nat.reduceMul, Nat.zero_add, Nat.zero_mul, List.cons_append, List.nil_append]; exact rfl)) ?_)
  refine gl_nil ?_
  refine gk_seq ?_
  refine gc_seq ?_
  refine gc_region ?_
  refine gl_cons (gs_val (val_loadA kag70 rfl (sees_mem (by repeat (first | exact .head _ | refine .tail _ ?_ | refine List.mem_append_right _ ?_))) rfl rfl) rfl rfl rfl ?_)
  refine gl_cons (gs_store ksz70 rfl rfl rfl rfl rfl rfl (by first | exact .head | exact .tail .head | exact .tail (.tail .head) | exact .tail (.tail (.tail .head)) | exact .tail (.tail (.tail (.tail .head))) | exact .tail (.tail (.tail (.tail (.tail .head))))) (by simp) (by first | ((with_reducible refine splice_all _ _ ?_); simp; done) | (simp only [splice, stL, digL, List.take_succ_cons, List.take_zero, List.drop_succ_cons, List.drop_zero, List.length_cons, List.length_nil, Nat.reduceAdd, Nat.reduceMul, Nat.zero_add, Nat.zero_mul, List.cons_append, List.nil_append]; exact rfl)) ?_)
  refine gl_nil ?_
  refine gk_seq ?_
  refine gc_ret ?_
  refine gk_ret rfl (resv_cellA kag70 rfl (sees_mem (by repeat (first | exact .head _ | refine .tail _ ?_ | refine List.mem_append_right _ ?_))) rfl rfl .nil) (.cons _ (.cons _ (List.Sublist.refl _))) ?_
  exact ⟨(ba5, c5, N5), h5, rfl, rfl⟩

/-- baize/guard.copied -/
theorem copied_spec (h : BitVec 64) (nb : Int) (ba : Option Addr) (n c : Nat) (l : List UInt8) (hn : l.length = n) (hl : n ≤ 1048576) : Makes Try.prog 136 ([apV h nb (.slice ba n c)]).toArray (fun w => Row w [] ba (l.map U8)) (fun s : Option Addr × Nat × List Ent => Own 5 1 s.1 n s.2.1 (l.map U8) s.2.2) (fun s => apV h nb (.slice s.1 n s.2.1)) (fun s => s.2.2) := by
  refine spec_walk (n := 8) Try.func136 rfl rfl rfl (fun w0 hpre => ?_)
  refine gc_seq ?_
  refine gc_region ?_
  refine gl_cons (gs_box rfl rfl rfl rfl (fun b1 => ?_))
  refine gl_cons (gs_alloc kze70 rfl rfl rfl (fun b2 => ?_))
  refine gl_nil ?_
  refine gk_seq ?_
  refine gc_seq ?_
  refine gc_region ?_
  refine gl_cons (gs_val (val_fieldAddr kfo70_2 rfl) rfl rfl rfl ?_)
  refine gl_cons (gs_val (val_load1 kag54 rfl (sees_mem (by repeat (first | exact .head _ | refine .tail _ ?_ | refine List.mem_append_right _ ?_))) rfl) rfl rfl rfl ?_)
  refine gl_cons (gs_makes (enters kcall154 (.cons rfl .nil)) (cloneB_spec ba n c l hn hl) rfl rfl rfl (row_of_sees (sees_row hpre)) (fun ⟨ba5, c5, N5⟩ h5 => ?_))
  refine gx_perm List.perm_append_comm ?_
  refine gl_cons (gs_val (val_fieldAddr kfo70_2 rfl) rfl rfl rfl ?_)
  refine gl_cons (gs_store ksz54 rfl rfl rfl rfl rfl rfl (by first | exact .head | exact .tail .head | exact .tail (.tail .head) | exact .tail (.tail (.tail .head)) | exact .tail (.tail (.tail (.tail .head))) | exact .tail (.tail (.tail (.tail (.tail .head))))) (by simp) (by first | ((with_reducible refine splice_all _ _ ?_); simp; done) | (simp only [splice, stL, digL, List.take_succ_cons, List.take_zero, List.drop_succ_cons, List.drop_zero, List.length_cons, List.length_nil, Nat.reduceAdd, Nat.reduceMul, Nat.zero_add, Nat.zero_mul, List.cons_append, List.nil_append]; exact rfl)) ?_)
  refine gl_nil ?_
  refine gk_seq ?_
  refine gc_seq ?_
  refine gc_region ?_
  refine gl_cons (gs_val (val_loadA kag70 rfl (sees_mem (by repeat (first | exact .head _ | refine .tail _ ?_ | refine List.mem_append_right _ ?_))) rfl rfl) rfl rfl rfl ?_)
  refine gl_cons (gs_store ksz70 rfl rfl rfl rfl rfl rfl (by first | exact .head | exact .tail .head | exact .tail (.tail .head) | exact .tail (.tail (.tail .head)) | exact .tail (.tail (.tail (.tail .head))) | exact .tail (.tail (.tail (.tail (.tail .head))))) (by simp) (by first | ((with_reducible refine splice_all _ _ ?_); simp; done) | (simp only [splice, stL, digL, List.take_succ_cons, List.take_zero, List.drop_succ_cons, List.drop_zero, List.length_cons, List.length_nil, Nat.reduceAdd, Nat.reduceMul, Nat.zero_add, Nat.zero_mul, List.cons_append, List.nil_append]; exact rfl)) ?_)
  refine gl_nil ?_
  refine gk_seq ?_
  refine gc_ret ?_
  refine gk_ret rfl (resv_cellA kag70 rfl (sees_mem (by repeat (first | exact .head _ | refine .tail _ ?_ | refine List.mem_append_right _ ?_))) rfl rfl .nil) (.cons _ (.cons _ (List.Sublist.refl _))) ?_
  exact ⟨(ba5, c5, N5), h5, rfl, rfl⟩

/-- baize/tower.New -/
theorem newT_no (r : Int) (hr : r < 1 ∨ 4096 < r) : Pure Try.prog 38 ([I64 r]).toArray (fun _ => True) (.tuple #[.pointer none, I64 1]) := by
  refine spec_walk (n := 14) Try.func38 rfl rfl rfl (fun w0 hpre => ?_)
  refine gc_seq ?_
  refine gc_region ?_
  refine gl_cons (gs_val (val_assign rfl) rfl rfl rfl ?_)
  refine gl_cons (gs_val (val_assign rfl) rfl rfl rfl ?_)
  refine gl_nil ?_
  refine gk_seq ?_
  refine gc_seq ?_
  refine gc_seq ?_
  refine gc_region ?_
  refine gl_cons (gs_val (val_move rfl) rfl rfl rfl ?_)
  refine gl_cons (gs_val (val_lss rfl rfl) rfl rfl rfl ?_)
  refine gl_cons (gs_val (val_move rfl) rfl rfl rfl ?_)
  refine gx_split 6 rfl (fun h6 => ?_) (fun h6 => ?_)
  · skip
    refine gl_cons (gs_skip rfl rfl rfl ?_)
    refine gl_cons (gs_skip rfl rfl rfl ?_)
    refine gl_cons (gs_val (val_pick_t rfl rfl) rfl rfl rfl ?_)
    refine gl_nil ?_
    refine gk_seq ?_
    refine gc_true rfl ?_
    refine gc_seq ?_
    refine gc_region ?_
    refine gl_cons (gs_val (val_assign rfl) rfl rfl rfl ?_)
    refine gl_cons (gs_val (val_assign rfl) rfl rfl rfl ?_)
    refine gl_nil ?_
    refine gk_seq ?_
    refine gc_ret ?_
    refine gk_seq_ret ?_
    refine gk_ret rfl (resv_tmp rfl (resv_tmp rfl .nil)) (List.nil_sublist _) ?_
    exact ⟨rfl, rfl⟩
  · skip
    refine gl_cons (gs_val (val_move rfl) rfl rfl rfl ?_)
    refine gl_cons (gs_val (val_gtr rfl rfl) rfl rfl rfl ?_)
    refine gl_cons (gs_val (val_pick_f rfl rfl) rfl rfl rfl ?_)
    refine gl_nil ?_
    refine gk_seq ?_
    refine gc_if rfl (fun h9 => ?_) (fun h9 => ?_)
    · skip
      refine gc_seq ?_
      refine gc_region ?_
      refine gl_cons (gs_val (val_assign rfl) rfl rfl rfl ?_)
      refine gl_cons (gs_val (val_assign rfl) rfl rfl rfl ?_)
      refine gl_nil ?_
      refine gk_seq ?_
      refine gc_ret ?_
      refine gk_seq_ret ?_
      refine gk_ret rfl (resv_tmp rfl (resv_tmp rfl .nil)) (List.nil_sublist _) ?_
      exact ⟨rfl, rfl⟩
    · exfalso; omega

/-- baize/tower.New -/
theorem newT_ok (r : Nat) (h1 : 1 ≤ r) (h2 : r ≤ 4096) : Makes Try.prog 38 ([I64 (r : Int)]).toArray (fun _ => True) (fun s : Nat × List Ent => TW 175 70 s.1 r [] s.2) (fun s => .tuple #[.pointer (some ⟨s.1, 0, none⟩), I64 0]) (fun s => s.2) := by
  refine spec_walk (n := 14) Try.func38 rfl rfl rfl (fun w0 hpre => ?_)
  refine gc_seq ?_
  refine gc_region ?_
  refine gl_cons (gs_val (val_assign rfl) rfl rfl rfl ?_)
  refine gl_cons (gs_val (val_assign rfl) rfl rfl rfl ?_)
  refine gl_nil ?_
  refine gk_seq ?_
  refine gc_seq ?_
  refine gc_seq ?_
  refine gc_region ?_
  refine gl_cons (gs_val (val_move rfl) rfl rfl rfl ?_)
  refine gl_cons (gs_val (val_no (val_lss rfl rfl) (by omega)) rfl rfl rfl ?_)
  refine gl_cons (gs_val (val_move rfl) rfl rfl rfl ?_)
  refine gl_cons (gs_val (val_move rfl) rfl rfl rfl ?_)
  refine gl_cons (gs_val (val_no (val_gtr rfl rfl) (by omega)) rfl rfl rfl ?_)
  refine gl_cons (gs_val (val_pick_f rfl rfl) rfl rfl rfl ?_)
  refine gl_nil ?_
  refine gk_seq ?_
  refine gc_false rfl ?_
  refine gc_skip ?_
  refine gk_seq ?_
  refine gc_seq ?_
  refine gc_region ?_
  refine gl_cons (gs_val (val_move rfl) rfl rfl rfl ?_)
  refine gl_cons (gs_makeMap rfl rfl (fun mb => ?_))
  refine gl_cons (gs_val (val_buildStr kze175 kpl175 (.cons rfl (.cons rfl .nil)) rfl (.cons rfl rfl rfl (by simp) (by first | ((with_reducible refine splice_all _ _ ?_); simp; done) | (simp only [splice, stL, digL, List.take_succ_cons, List.take_zero, List.drop_succ_cons, List.drop_zero, List.length_cons, List.length_nil, Nat.reduceAdd, Nat.reduceMul, Nat.zero_add, Nat.zero_mul, List.cons_append, List.nil_append]; exact rfl)) (.cons rfl rfl rfl (by simp) (by first | ((with_reducible refine splice_all _ _ ?_); simp; done) | (simp only [splice, stL, digL, List.take_succ_cons, List.take_zero, List.drop_succ_cons, List.drop_zero, List.length_cons, List.length_nil, Nat.reduceAdd, Nat.reduceMul, Nat.zero_add, Nat.zero_mul, List.cons_append, List.nil_append]; exact rfl)) .nil))) rfl rfl rfl ?_)
  refine gl_cons (gs_box rfl rfl rfl rfl (fun b13 => ?_))
  refine gl_cons (gs_val (val_assign rfl) rfl rfl rfl ?_)
  refine gl_cons (gs_val (val_assign rfl) rfl rfl rfl ?_)
  refine gl_nil ?_
  refine gk_seq ?_
  refine gc_ret ?_
  refine gk_ret rfl (resv_tmp rfl (resv_tmp rfl .nil)) (List.Sublist.refl _) ?_
  exact ⟨(b13, _), tw_new _ _ b13 r mb, rfl, rfl⟩

end Go.Proofs.Ytddckbhlfeegoaa
