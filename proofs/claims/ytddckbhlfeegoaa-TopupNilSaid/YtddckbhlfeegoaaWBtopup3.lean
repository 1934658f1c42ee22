/- The walk of functions of the program: what each computes, for every input. -/
import Derived.Test.YtddckbhlfeegoaaWBFacts
import Derived.Test.YtddckbhlfeegoaaWBtopup2
namespace Go.Proofs.Ytddckbhlfeegoaa
open Go Go.Eng
set_option linter.unusedVariables false
set_option linter.unusedSimpArgs false

set_option maxRecDepth 8000 in
/-- baize/topup.New -/
theorem newB_err (ba : Option Addr) (n c : Nat) (l : List Int) (hn : l.length = n) (hb : n ≤ 140737488351232) (he : ¬ newE n l = 0) : Pure Try.prog 20 ([.slice ba n c]).toArray (fun w => Row w [] ba (l.map I64)) (.tuple #[.pointer none, I64 (newE n l)]) := by
  refine spec_walk (n := 20) Try.func20 rfl rfl rfl (fun w0 hpre => ?_)
  refine gc_seq ?_
  refine gc_region ?_
  refine gl_cons (gs_box rfl rfl rfl rfl (fun b1 => ?_))
  refine gl_cons (gs_val (val_assign rfl) rfl rfl rfl ?_)
  refine gl_cons (gs_val (val_assign rfl) rfl rfl rfl ?_)
  refine gl_nil ?_
  refine gk_seq ?_
  refine gc_seq ?_
  refine gc_region ?_
  refine gl_cons (gs_val (val_makeFunc .nil (.cons rfl .nil)) rfl rfl rfl ?_)
  refine gl_cons (gs_val (val_buildStr kze148 kpl148 (.cons rfl (.cons rfl .nil)) rfl (.cons rfl rfl rfl (by simp) (by first | ((with_reducible refine splice_all _ _ ?_); simp; done) | (simp only [splice, stL, digL, List.take_succ_cons, List.take_zero, List.drop_succ_cons, List.drop_zero, List.length_cons, List.length_nil, Nat.reduceAdd, Nat.reduceMul, Nat.zero_add, Nat.zero_mul, List.cons_append, List.nil_append]; exact rfl)) (.cons rfl rfl rfl (by simp) (by first | ((with_reducible refine splice_all _ _ ?_); simp; done) | (simp only [splice, stL, digL, List.take_succ_cons, List.take_zero, List.drop_succ_cons, List.drop_zero, List.length_cons, List.length_nil, Nat.reduceAdd, Nat.reduceMul, Nat.zero_add, Nat.zero_mul, List.cons_append, List.nil_append]; exact rfl)) .nil))) rfl rfl rfl ?_)
  refine gl_cons (gs_val (val_makeFunc .nil (.cons rfl .nil)) rfl rfl rfl ?_)
  refine gl_cons (gs_val (val_buildStr kze148 kpl148 (.cons rfl (.cons rfl .nil)) rfl (.cons rfl rfl rfl (by simp) (by first | ((with_reducible refine splice_all _ _ ?_); simp; done) | (simp only [splice, stL, digL, List.take_succ_cons, List.take_zero, List.drop_succ_cons, List.drop_zero, List.length_cons, List.length_nil, Nat.reduceAdd, Nat.reduceMul, Nat.zero_add, Nat.zero_mul, List.cons_append, List.nil_append]; exact rfl)) (.cons rfl rfl rfl (by simp) (by first | ((with_reducible refine splice_all _ _ ?_); simp; done) | (simp only [splice, stL, digL, List.take_succ_cons, List.take_zero, List.drop_succ_cons, List.drop_zero, List.length_cons, List.length_nil, Nat.reduceAdd, Nat.reduceMul, Nat.zero_add, Nat.zero_mul, List.cons_append, List.nil_append]; exact rfl)) .nil))) rfl rfl rfl ?_)
  refine gl_cons (gs_val (val_makeFunc .nil (.cons rfl .nil)) rfl rfl rfl ?_)
  refine gl_cons (gs_val (val_buildStr kze148 kpl148 (.cons rfl (.cons rfl .nil)) rfl (.cons rfl rfl rfl (by simp) (by first | ((with_reducible refine splice_all _ _ ?_); simp; done) | (simp only [splice, stL, digL, List.take_succ_cons, List.take_zero, List.drop_succ_cons, List.drop_zero, List.length_cons, List.length_nil, Nat.reduceAdd, Nat.reduceMul, Nat.zero_add, Nat.zero_mul, List.cons_append, List.nil_append]; exact rfl)) (.cons rfl rfl rfl (by simp) (by first | ((with_reducible refine splice_all _ _ ?_); simp; done) | (simp only [splice, stL, digL, List.take_succ_cons, List.take_zero, List.drop_succ_cons, List.drop_zero, List.length_cons, List.length_nil, Nat.reduceAdd, Nat.reduceMul, Nat.zero_add, Nat.zero_mul, List.cons_append, List.nil_append]; exact rfl)) .nil))) rfl rfl rfl ?_)
  refine gl_cons (gs_buildSlice (zs := [.nilFunc, .int .i64 0, .nilFunc, .int .i64 0, .nilFunc, .int .i64 0]) ksl158 kze148 rfl rfl (.cons rfl (.cons rfl (.cons rfl .nil))) (.cons rfl rfl rfl (by simp) (by first | ((with_reducible refine splice_all _ _ ?_); simp; done) | (simp only [splice, stL, digL, List.take_succ_cons, List.take_zero, List.drop_succ_cons, List.drop_zero, List.length_cons, List.length_nil, Nat.reduceAdd, Nat.reduceMul, Nat.zero_add, Nat.zero_mul, List.cons_append, List.nil_append]; exact rfl)) (.cons rfl rfl rfl (by simp) (by first | ((with_reducible refine splice_all _ _ ?_); simp; done) | (simp only [splice, stL, digL, List.take_succ_cons, List.take_zero, List.drop_succ_cons, List.drop_zero, List.length_cons, List.length_nil, Nat.reduceAdd, Nat.reduceMul, Nat.zero_add, Nat.zero_mul, List.cons_append, List.nil_append]; exact rfl)) (.cons rfl rfl rfl (by simp) (by first | ((with_reducible refine splice_all _ _ ?_); simp; done) | (simp only [splice, stL, digL, List.take_succ_cons, List.take_zero, List.drop_succ_cons, List.drop_zero, List.length_cons, List.length_nil, Nat.reduceAdd, Nat.reduceMul, Nat.zero_add, Nat.zero_mul, List.cons_append, List.nil_append]; exact rfl)) .nil))) rfl rfl (fun b11 => ?_))
  refine gl_cons (gs_pure (enters kcall79 (.cons rfl .nil)) (first_spec (some ⟨b11, 0, none⟩) 3 3 [⟨80, [.pointer (some ⟨b1, 0, none⟩)], 3⟩, ⟨81, [.pointer (some ⟨b1, 0, none⟩)], 2⟩, ⟨83, [.pointer (some ⟨b1, 0, none⟩)], 22⟩] (newE n l) (fun w => Row w [] (some ⟨b1, 0, none⟩) [.slice ba n c] ∧ Row w [] ba (l.map I64)) (stable_and stable_row stable_row) (AllR.if' kcall80 (newB1_spec b1 ba n c l hn) (fun g1 => AllR.if' kcall81 (newB2_spec b1 ba n c l hn hb) (fun g2 => AllR.if' kcall83 (newB3_spec b1 ba n c l hn (by have := of_decide_eq_true g1; omega) (of_decide_eq_true g2)) (fun _ => .nil)))) rfl (by decide)) rfl rfl rfl (fun w hi => ⟨row_of_sees (sees_all (by repeat (first | exact .head _ | refine .tail _ ?_ | refine List.mem_append_right _ ?_))) w hi, row_of_sees (sees_all (by repeat (first | exact .head _ | refine .tail _ ?_ | refine List.mem_append_right _ ?_))) w hi, row_of_sees (sees_row hpre) w hi⟩) ?_)
  refine gl_cons (gs_val (val_assign rfl) rfl rfl rfl ?_)
  refine gl_nil ?_
  refine gk_seq ?_
  refine gc_seq ?_
  refine gc_seq ?_
  refine gc_region ?_
  refine gl_cons (gs_val (val_move rfl) rfl rfl rfl ?_)
  refine gl_cons (gs_val (val_yes (val_neq rfl rfl) he) rfl rfl rfl ?_)
  refine gl_nil ?_
  refine gk_seq ?_
  refine gc_true rfl ?_
  refine gc_seq ?_
  refine gc_region ?_
  refine gl_cons (gs_val (val_move rfl) rfl rfl rfl ?_)
  refine gl_cons (gs_val (val_assign rfl) rfl rfl rfl ?_)
  refine gl_cons (gs_val (val_assign rfl) rfl rfl rfl ?_)
  refine gl_nil ?_
  refine gk_seq ?_
  refine gc_ret ?_
  refine gk_seq_ret ?_
  refine gk_ret rfl (resv_tmp rfl (resv_tmp rfl .nil)) (List.nil_sublist _) ?_
  exact ⟨rfl, rfl⟩

set_option maxRecDepth 8000 in
/-- baize/topup.New -/
theorem newB_ok (ba : Option Addr) (n c : Nat) (l : List Int) (hn : l.length = n) (hb : n ≤ 140737488351232) (he : newE n l = 0) : Makes Try.prog 20 ([.slice ba n c]).toArray (fun w => Row w [] ba (l.map I64)) (fun s : Nat × List Ent => BK 154 157 3 4 s.1 ⟨l, -1, none⟩ s.2) (fun s => .tuple #[.pointer (some ⟨s.1, 0, none⟩), I64 0]) (fun s => s.2) := by
  obtain ⟨⟨hn2, hn8⟩, _, _⟩ := newE_ok he
  refine spec_walk (n := 20) Try.func20 rfl rfl rfl (fun w0 hpre => ?_)
  refine gc_seq ?_
  refine gc_region ?_
  refine gl_cons (gs_box rfl rfl rfl rfl (fun b1 => ?_))
  refine gl_cons (gs_val (val_assign rfl) rfl rfl rfl ?_)
  refine gl_cons (gs_val (val_assign rfl) rfl rfl rfl ?_)
  refine gl_nil ?_
  refine gk_seq ?_
  refine gc_seq ?_
  refine gc_region ?_
  refine gl_cons (gs_val (val_makeFunc .nil (.cons rfl .nil)) rfl rfl rfl ?_)
  refine gl_cons (gs_val (val_buildStr kze148 kpl148 (.cons rfl (.cons rfl .nil)) rfl (.cons rfl rfl rfl (by simp) (by first | ((with_reducible refine splice_all _ _ ?_); simp; done) | (simp only [splice, stL, digL, List.take_succ_cons, List.take_zero, List.drop_succ_cons, List.drop_zero, List.length_cons, List.length_nil, Nat.reduceAdd, Nat.reduceMul, Nat.zero_add, Nat.zero_mul, List.cons_append, List.nil_append]; exact rfl)) (.cons rfl rfl rfl (by simp) (by first | ((with_reducible refine splice_all _ _ ?_); simp; done) | (simp only [splice, stL, digL, List.take_succ_cons, List.take_zero, List.drop_succ_cons, List.drop_zero, List.length_cons, List.length_nil, Nat.reduceAdd, Nat.reduceMul, Nat.zero_add, Nat.zero_mul, List.cons_append, List.nil_append]; exact rfl)) .nil))) rfl rfl rfl ?_)
  refine gl_cons (gs_val (val_makeFunc .nil (.cons rfl .nil)) rfl rfl rfl ?_)
  refine gl_cons (gs_val (val_buildStr kze148 kpl148 (.cons rfl (.cons rfl .nil)) rfl (.cons rfl rfl rfl (by simp) (by first | ((with_reducible refine splice_all _ _ ?_); simp; done) | (simp only [splice, stL, digL, List.take_succ_cons, List.take_zero, List.drop_succ_cons, List.drop_zero, List.length_cons, List.length_nil, Nat.reduceAdd, Nat.reduceMul, Nat.zero_add, Nat.zero_mul, List.cons_append, List.nil_append]; exact rfl)) (.cons rfl rfl rfl (by simp) (by first | ((with_reducible refine splice_all _ _ ?_); simp; done) | (simp only [splice, stL, digL, List.take_succ_cons, List.take_zero, List.drop_succ_cons, List.drop_zero, List.length_cons, List.length_nil, Nat.reduceAdd, Nat.reduceMul, Nat.zero_add, Nat.zero_mul, List.cons_append, List.nil_append]; exact rfl)) .nil))) rfl rfl rfl ?_)
  refine gl_cons (gs_val (val_makeFunc .nil (.cons rfl .nil)) rfl rfl rfl ?_)
  refine gl_cons (gs_val (val_buildStr kze148 kpl148 (.cons rfl (.cons rfl .nil)) rfl (.cons rfl rfl rfl (by simp) (by first | ((with_reducible refine splice_all _ _ ?_); simp; done) | (simp only [splice, stL, digL, List.take_succ_cons, List.take_zero, List.drop_succ_cons, List.drop_zero, List.length_cons, List.length_nil, Nat.reduceAdd, Nat.reduceMul, Nat.zero_add, Nat.zero_mul, List.cons_append, List.nil_append]; exact rfl)) (.cons rfl rfl rfl (by simp) (by first | ((with_reducible refine splice_all _ _ ?_); simp; done) | (simp only [splice, stL, digL, List.take_succ_cons, List.take_zero, List.drop_succ_cons, List.drop_zero, List.length_cons, List.length_nil, Nat.reduceAdd, Nat.reduceMul, Nat.zero_add, Nat.zero_mul, List.cons_append, List.nil_append]; exact rfl)) .nil))) rfl rfl rfl ?_)
  refine gl_cons (gs_buildSlice (zs := [.nilFunc, .int .i64 0, .nilFunc, .int .i64 0, .nilFunc, .int .i64 0]) ksl158 kze148 rfl rfl (.cons rfl (.cons rfl (.cons rfl .nil))) (.cons rfl rfl rfl (by simp) (by first | ((with_reducible refine splice_all _ _ ?_); simp; done) | (simp only [splice, stL, digL, List.take_succ_cons, List.take_zero, List.drop_succ_cons, List.drop_zero, List.length_cons, List.length_nil, Nat.reduceAdd, Nat.reduceMul, Nat.zero_add, Nat.zero_mul, List.cons_append, List.nil_append]; exact rfl)) (.cons rfl rfl rfl (by simp) (by first | ((with_reducible refine splice_all _ _ ?_); simp; done) | (simp only [splice, stL, digL, List.take_succ_cons, List.take_zero, List.drop_succ_cons, List.drop_zero, List.length_cons, List.length_nil, Nat.reduceAdd, Nat.reduceMul, Nat.zero_add, Nat.zero_mul, List.cons_append, List.nil_append]; exact rfl)) (.cons rfl rfl rfl (by simp) (by first | ((with_reducible refine splice_all _ _ ?_); simp; done) | (simp only [splice, stL, digL, List.take_succ_cons, List.take_zero, List.drop_succ_cons, List.drop_zero, List.length_cons, List.length_nil, Nat.reduceAdd, Nat.reduceMul, Nat.zero_add, Nat.zero_mul, List.cons_append, List.nil_append]; exact rfl)) .nil))) rfl rfl (fun b11 => ?_))
  refine gl_cons (gs_pure (enters kcall79 (.cons rfl .nil)) (first_spec (some ⟨b11, 0, none⟩) 3 3 [⟨80, [.pointer (some ⟨b1, 0, none⟩)], 3⟩, ⟨81, [.pointer (some ⟨b1, 0, none⟩)], 2⟩, ⟨83, [.pointer (some ⟨b1, 0, none⟩)], 22⟩] (newE n l) (fun w => Row w [] (some ⟨b1, 0, none⟩) [.slice ba n c] ∧ Row w [] ba (l.map I64)) (stable_and stable_row stable_row) (AllR.if' kcall80 (newB1_spec b1 ba n c l hn) (fun g1 => AllR.if' kcall81 (newB2_spec b1 ba n c l hn hb) (fun g2 => AllR.if' kcall83 (newB3_spec b1 ba n c l hn (by have := of_decide_eq_true g1; omega) (of_decide_eq_true g2)) (fun _ => .nil)))) rfl (by decide)) rfl rfl rfl (fun w hi => ⟨row_of_sees (sees_all (by repeat (first | exact .head _ | refine .tail _ ?_ | refine List.mem_append_right _ ?_))) w hi, row_of_sees (sees_all (by repeat (first | exact .head _ | refine .tail _ ?_ | refine List.mem_append_right _ ?_))) w hi, row_of_sees (sees_row hpre) w hi⟩) ?_)
  refine gl_cons (gs_val (val_assign rfl) rfl rfl rfl ?_)
  refine gl_nil ?_
  refine gk_seq ?_
  refine gc_seq ?_
  refine gc_seq ?_
  refine gc_region ?_
  refine gl_cons (gs_val (val_move rfl) rfl rfl rfl ?_)
  refine gl_cons (gs_val (val_no (val_neq rfl rfl) (not_not_intro he)) rfl rfl rfl ?_)
  refine gl_nil ?_
  refine gk_seq ?_
  refine gc_false rfl ?_
  refine gc_skip ?_
  refine gk_seq ?_
  refine gc_seq ?_
  refine gc_region ?_
  refine gl_cons (gs_val (val_load1 kag22 rfl (sees_mem (by repeat (first | exact .head _ | refine .tail _ ?_ | refine List.mem_append_right _ ?_))) rfl) rfl rfl rfl ?_)
  refine gl_cons (gs_makes (enters kcall86 (.cons rfl .nil)) (cloneI_spec ba n c l hn (by omega)) rfl rfl rfl (row_of_sees (sees_row hpre)) (fun ⟨sa, sc, NS⟩ hs => ?_))
  have hs : Own 3 1 sa n sc (l.map I64) NS := hs
  refine gl_cons (gs_val (val_buildStr kze154 kpl154 (.cons rfl (.cons rfl .nil)) rfl (.cons rfl rfl rfl (by simp) (by first | ((with_reducible refine splice_all _ _ ?_); simp; done) | (simp only [splice, stL, digL, List.take_succ_cons, List.take_zero, List.drop_succ_cons, List.drop_zero, List.length_cons, List.length_nil, Nat.reduceAdd, Nat.reduceMul, Nat.zero_add, Nat.zero_mul, List.cons_append, List.nil_append]; exact rfl)) (.cons rfl rfl rfl (by simp) (by first | ((with_reducible refine splice_all _ _ ?_); simp; done) | (simp only [splice, stL, digL, List.take_succ_cons, List.take_zero, List.drop_succ_cons, List.drop_zero, List.length_cons, List.length_nil, Nat.reduceAdd, Nat.reduceMul, Nat.zero_add, Nat.zero_mul, List.cons_append, List.nil_append]; exact rfl)) .nil))) rfl rfl rfl ?_)
  refine gl_cons (gs_box rfl rfl rfl rfl (fun b19 => ?_))
  refine gl_cons (gs_val (val_assign rfl) rfl rfl rfl ?_)
  refine gl_cons (gs_val (val_assign rfl) rfl rfl rfl ?_)
  refine gl_nil ?_
  refine gk_seq ?_
  refine gc_ret ?_
  refine gk_ret rfl (resv_tmp rfl (resv_tmp rfl .nil)) (M := bk0 154 b19 sa n sc (-1) NS) (List.Sublist.cons_cons _ (List.sublist_append_left NS _)) ?_
  subst hn; exact ⟨(b19, _), ⟨sa, sc, NS, hs, rfl⟩, rfl, rfl⟩

/-- (*baize/topup.Bank).Stakes -/
theorem stakes_nil  : Pure Try.prog 32 ([.pointer none]).toArray (fun _ => True) (.slice none 0 0) := by
  refine spec_walk (n := 10) Try.func32 rfl rfl rfl (fun w0 hpre => ?_)
  refine gc_seq ?_
  refine gc_region ?_
  refine gl_cons (gs_val (val_assign rfl) rfl rfl rfl ?_)
  refine gl_nil ?_
  refine gk_seq ?_
  refine gc_seq ?_
  refine gc_seq ?_
  refine gc_region ?_
  refine gl_cons (gs_val (val_move rfl) rfl rfl rfl ?_)
  refine gl_cons (gs_val (val_eqlNil kun24 rfl rfl) rfl rfl rfl ?_)
  refine gl_nil ?_
  refine gk_seq ?_
  refine gc_true rfl ?_
  refine gc_seq ?_
  refine gc_region ?_
  refine gl_cons (gs_val (val_assign rfl) rfl rfl rfl ?_)
  refine gl_nil ?_
  refine gk_seq ?_
  refine gc_ret ?_
  refine gk_seq_ret ?_
  refine gk_ret rfl (resv_tmp rfl .nil) (List.nil_sublist _) ?_
  exact ⟨rfl, rfl⟩

/-- (*baize/topup.Bank).Stakes -/
theorem stakes_spec (b : Nat) (sa : Option Addr) (n sc : Nat) (nm : Int) (opv : Value) (st : List Int) (hn : st.length = n) (hb : n ≤ 1048576) : Makes Try.prog 32 ([.pointer (some ⟨b, 0, none⟩)]).toArray (fun w => Row w [] (some ⟨b, 0, none⟩) (bkL (.slice sa n sc) nm opv) ∧ Row w [] sa (st.map I64)) (fun s : Option Addr × Nat × List Ent => Own 3 1 s.1 n s.2.1 (st.map I64) s.2.2) (fun s => .slice s.1 n s.2.1) (fun s => s.2.2) := by
  refine spec_walk (n := 10) Try.func32 rfl rfl rfl (fun w0 hpre => ?_)
  refine gc_seq ?_
  refine gc_region ?_
  refine gl_cons (gs_val (val_assign rfl) rfl rfl rfl ?_)
  refine gl_nil ?_
  refine gk_seq ?_
  refine gc_seq ?_
  refine gc_seq ?_
  refine gc_region ?_
  refine gl_cons (gs_val (val_move rfl) rfl rfl rfl ?_)
  refine gl_cons (gs_val (val_eqlNil kun24 rfl rfl) rfl rfl rfl ?_)
  refine gl_nil ?_
  refine gk_seq ?_
  refine gc_false rfl ?_
  refine gc_skip ?_
  refine gk_seq ?_
  refine gc_seq ?_
  refine gc_region ?_
  refine gl_cons (gs_val (val_move rfl) rfl rfl rfl ?_)
  refine gl_cons (gs_val (val_nilCheck rfl) rfl rfl rfl ?_)
  refine gl_cons (gs_val (val_fieldAddr kfo154_0 rfl) rfl rfl rfl ?_)
  refine gl_cons (gs_val (val_load1 kag22 rfl ((sees_row hpre.1).part 0) rfl) rfl rfl rfl ?_)
  refine gl_cons (gs_makes (enters kcall86 (.cons rfl .nil)) (cloneI_spec sa n sc st hn hb) rfl rfl rfl (row_of_sees (sees_row hpre.2)) (fun ⟨ba', c', N'⟩ hs => ?_))
  refine gl_cons (gs_val (val_assign rfl) rfl rfl rfl ?_)
  refine gl_nil ?_
  refine gk_seq ?_
  refine gc_ret ?_
  refine gk_ret rfl (resv_tmp rfl .nil) (List.sublist_append_left _ _) ?_
  exact ⟨(ba', c', N'), hs, rfl, rfl⟩

/-- (*baize/topup.Bank).Pot -/
theorem pot_nil  : Pure Try.prog 29 ([.pointer none]).toArray (fun _ => True) (I64 0) := by
  refine spec_walk (n := 6) Try.func29 rfl rfl rfl (fun w0 hpre => ?_)
  refine gc_seq ?_
  refine gc_region ?_
  refine gl_cons (gs_val (val_assign rfl) rfl rfl rfl ?_)
  refine gl_nil ?_
  refine gk_seq ?_
  refine gc_seq ?_
  refine gc_region ?_
  refine gl_cons (gs_val (val_move rfl) rfl rfl rfl ?_)
  refine gl_cons (gs_pure (enters kcall32 (.cons rfl .nil)) (stakes_nil) rfl rfl rfl (fun _ _ => trivial) ?_)
  refine gl_cons (gs_pure (enters kcall85 (.cons rfl .nil)) (sum_spec none 0 0 [] rfl (by decide) (by simp)) rfl rfl rfl (fun _ _ i v h => by simp at h) ?_)
  refine gl_cons (gs_val (val_assign rfl) rfl rfl rfl ?_)
  refine gl_nil ?_
  refine gk_seq ?_
  refine gc_ret ?_
  refine gk_ret rfl (resv_tmp rfl .nil) (List.nil_sublist _) ?_
  exact ⟨rfl, rfl⟩

/-- (*baize/topup.Bank).Pot -/
theorem pot_spec (b : Nat) (sa : Option Addr) (n sc : Nat) (nm : Int) (opv : Value) (st : List Int) (hn : st.length = n) (hb : n ≤ 100) (hr : ∀ x ∈ st, rightP x) : Pure Try.prog 29 ([.pointer (some ⟨b, 0, none⟩)]).toArray (fun w => Row w [] (some ⟨b, 0, none⟩) (bkL (.slice sa n sc) nm opv) ∧ Row w [] sa (st.map I64)) (I64 st.sum) := by
  refine spec_walk (n := 6) Try.func29 rfl rfl rfl (fun w0 hpre => ?_)
  refine gc_seq ?_
  refine gc_region ?_
  refine gl_cons (gs_val (val_assign rfl) rfl rfl rfl ?_)
  refine gl_nil ?_
  refine gk_seq ?_
  refine gc_seq ?_
  refine gc_region ?_
  refine gl_cons (gs_val (val_move rfl) rfl rfl rfl ?_)
  refine gl_cons (gs_makes (enters kcall32 (.cons rfl .nil)) (stakes_spec b sa n sc nm opv st hn (by omega)) rfl rfl rfl (fun w hi => ⟨(row_of_sees (sees_row hpre.1)) w hi, (row_of_sees (sees_row hpre.2)) w hi⟩) (fun ⟨ba', c', N'⟩ hs => ?_))
  have hs : Own 3 1 ba' n c' (st.map I64) N' := hs
  refine gl_cons (gs_pure (enters kcall85 (.cons rfl .nil)) (sum_spec ba' n c' st hn hb hr) rfl rfl rfl (row_of_sees (hs.look (by repeat (first | exact .here | exact .headR | exact .app | refine .tail ?_ | refine .appr ?_)))) ?_)
  refine gl_cons (gs_val (val_assign rfl) rfl rfl rfl ?_)
  refine gl_nil ?_
  refine gk_seq ?_
  refine gc_ret ?_
  refine gk_ret rfl (resv_tmp rfl .nil) (List.nil_sublist _) ?_
  exact ⟨rfl, rfl⟩

end Go.Proofs.Ytddckbhlfeegoaa
