/- The walk of functions of the program: what each computes, for every input. -/
import Derived.Test.YtddckbhlfeegoaaWBFacts
import Derived.Test.YtddckbhlfeegoaaWBtopup5
namespace Go.Proofs.Ytddckbhlfeegoaa
open Go Go.Eng
set_option linter.unusedVariables false
set_option linter.unusedSimpArgs false

/-- (*baize/topup.Bank).asked$1 -/
theorem asked1_none (c3 : Nat) (b : Nat) (sa : Option Addr) (n sc : Nat) (nm : Int) : Pure Try.prog 149 ([.pointer (some ⟨c3, 0, none⟩)]).toArray (fun w => Row w [] (some ⟨c3, 0, none⟩) [.pointer (some ⟨b, 0, none⟩)] ∧ Row w [] (some ⟨b, 0, none⟩) (bkL (.slice sa n sc) nm (.pointer none))) (.bool false) := by
  refine spec_walk (n := 7) Try.func149 rfl rfl rfl (fun w0 hpre => ?_)
  refine gc_seq ?_
  refine gc_region ?_
  refine gl_cons (gs_val (val_assign rfl) rfl rfl rfl ?_)
  refine gl_nil ?_
  refine gk_seq ?_
  refine gc_seq ?_
  refine gc_region ?_
  refine gl_cons (gs_val (val_load1 kag24 rfl ((sees_row hpre.1).part 0) rfl) rfl rfl rfl ?_)
  refine gl_cons (gs_val (val_nilCheck rfl) rfl rfl rfl ?_)
  refine gl_cons (gs_val (val_fieldAddr kfo154_2 rfl) rfl rfl rfl ?_)
  refine gl_cons (gs_val (val_load1 kag152 rfl ((sees_row hpre.2).part 2) rfl) rfl rfl rfl ?_)
  refine gl_cons (gs_val (val_neqNil kun152 rfl rfl) rfl rfl rfl ?_)
  refine gl_cons (gs_val (val_assign rfl) rfl rfl rfl ?_)
  refine gl_nil ?_
  refine gk_seq ?_
  refine gc_ret ?_
  refine gk_ret rfl (resv_tmp rfl .nil) (List.nil_sublist _) ?_
  exact ⟨rfl, rfl⟩

/-- (*baize/topup.Bank).asked$1 -/
theorem asked1_some (c3 : Nat) (p : Nat) (b : Nat) (sa : Option Addr) (n sc : Nat) (nm : Int) : Pure Try.prog 149 ([.pointer (some ⟨c3, 0, none⟩)]).toArray (fun w => Row w [] (some ⟨c3, 0, none⟩) [.pointer (some ⟨b, 0, none⟩)] ∧ Row w [] (some ⟨b, 0, none⟩) (bkL (.slice sa n sc) nm (.pointer (some ⟨p, 0, none⟩)))) (.bool true) := by
  refine spec_walk (n := 7) Try.func149 rfl rfl rfl (fun w0 hpre => ?_)
  refine gc_seq ?_
  refine gc_region ?_
  refine gl_cons (gs_val (val_assign rfl) rfl rfl rfl ?_)
  refine gl_nil ?_
  refine gk_seq ?_
  refine gc_seq ?_
  refine gc_region ?_
  refine gl_cons (gs_val (val_load1 kag24 rfl ((sees_row hpre.1).part 0) rfl) rfl rfl rfl ?_)
  refine gl_cons (gs_val (val_nilCheck rfl) rfl rfl rfl ?_)
  refine gl_cons (gs_val (val_fieldAddr kfo154_2 rfl) rfl rfl rfl ?_)
  refine gl_cons (gs_val (val_load1 kag152 rfl ((sees_row hpre.2).part 2) rfl) rfl rfl rfl ?_)
  refine gl_cons (gs_val (val_neqNil kun152 rfl rfl) rfl rfl rfl ?_)
  refine gl_cons (gs_val (val_assign rfl) rfl rfl rfl ?_)
  refine gl_nil ?_
  refine gk_seq ?_
  refine gc_ret ?_
  refine gk_ret rfl (resv_tmp rfl .nil) (List.nil_sublist _) ?_
  exact ⟨rfl, rfl⟩

/-- (*baize/topup.Bank).asked$2 -/
theorem asked2_spec (c5 c3 : Nat) (seat : Int) (opv : Value) (b : Nat) (sa : Option Addr) (n sc : Nat) (nm : Int) : Pure Try.prog 150 ([.pointer (some ⟨c5, 0, none⟩), .pointer (some ⟨c3, 0, none⟩)]).toArray (fun w => Row w [] (some ⟨c5, 0, none⟩) [I64 seat] ∧ Row w [] (some ⟨c3, 0, none⟩) [.pointer (some ⟨b, 0, none⟩)] ∧ Row w [] (some ⟨b, 0, none⟩) (bkL (.slice sa n sc) nm (opv))) (.bool (decide (0 ≤ seat ∧ seat < (n : Int)))) := by
  refine spec_walk (n := 14) Try.func150 rfl rfl rfl (fun w0 hpre => ?_)
  refine gc_seq ?_
  refine gc_region ?_
  refine gl_cons (gs_val (val_assign rfl) rfl rfl rfl ?_)
  refine gl_nil ?_
  refine gk_seq ?_
  refine gc_seq ?_
  refine gc_drawAll kmixed (by kernel_rfl) ?_
  refine gq_val (val_load1 kag3 rfl ((sees_row hpre.1).part 0) rfl) rfl rfl rfl ?_
  refine gq_val (val_geq rfl rfl) rfl rfl rfl ?_
  refine gq_val (val_move rfl) rfl rfl rfl ?_
  refine gq_split 5 rfl (fun h5 => ?_) (fun h5 => ?_)
  · skip
    refine gq_val (val_load1 kag3 rfl ((sees_row hpre.1).part 0) rfl) rfl rfl rfl ?_
    refine gq_val (val_load1 kag24 rfl ((sees_row hpre.2.1).part 0) rfl) rfl rfl rfl ?_
    refine gq_val (val_nilCheck rfl) rfl rfl rfl ?_
    refine gq_val (val_fieldAddr kfo154_0 rfl) rfl rfl rfl ?_
    refine gq_val (val_load1 kag22 rfl ((sees_row hpre.2.2).part 0) rfl) rfl rfl rfl ?_
    refine gq_val (val_lenSli ksl22 rfl) rfl rfl rfl ?_
    refine gq_val (val_lss rfl rfl) rfl rfl rfl ?_
    refine gq_val (val_pick_t rfl rfl) rfl rfl rfl ?_
    refine gq_val (val_assign rfl) rfl rfl rfl ?_
    refine gq_nil ?_
    refine gl_nil ?_
    refine gk_seq ?_
    refine gc_ret ?_
    refine gk_ret rfl (resv_tmp rfl .nil) (List.nil_sublist _) ?_
    first | exact ⟨congrArg Value.bool (decide_eq_decide.2 (by omega)), rfl⟩ | exact ⟨congrArg Value.bool (decide_eq_false (by omega)).symm, rfl⟩
  · skip
    refine gq_skip rfl rfl rfl ?_
    refine gq_skip rfl rfl rfl ?_
    refine gq_skip rfl rfl rfl ?_
    refine gq_skip rfl rfl rfl ?_
    refine gq_skip rfl rfl rfl ?_
    refine gq_skip rfl rfl rfl ?_
    refine gq_skip rfl rfl rfl ?_
    refine gq_val (val_pick_f rfl rfl) rfl rfl rfl ?_
    refine gq_val (val_assign rfl) rfl rfl rfl ?_
    refine gq_nil ?_
    refine gl_nil ?_
    refine gk_seq ?_
    refine gc_ret ?_
    refine gk_ret rfl (resv_tmp rfl .nil) (List.nil_sublist _) ?_
    first | exact ⟨congrArg Value.bool (decide_eq_decide.2 (by omega)), rfl⟩ | exact ⟨congrArg Value.bool (decide_eq_false (by omega)).symm, rfl⟩

/-- (*baize/topup.Bank).asked$3 -/
theorem asked3_spec (c4 : Nat) (now : Int) : Pure Try.prog 151 ([.pointer (some ⟨c4, 0, none⟩)]).toArray (fun w => Row w [] (some ⟨c4, 0, none⟩) [I64 now]) (.bool (decide (heightP now))) := by
  refine spec_walk (n := 4) Try.func151 rfl rfl rfl (fun w0 hpre => ?_)
  refine gc_seq ?_
  refine gc_region ?_
  refine gl_cons (gs_val (val_assign rfl) rfl rfl rfl ?_)
  refine gl_nil ?_
  refine gk_seq ?_
  refine gc_seq ?_
  refine gc_region ?_
  refine gl_cons (gs_val (val_load1 kag3 rfl ((sees_row hpre).part 0) rfl) rfl rfl rfl ?_)
  refine gl_cons (gs_pure (enters kcall90 (.cons rfl .nil)) (height_spec now) rfl rfl rfl (fun _ _ => trivial) ?_)
  refine gl_cons (gs_val (val_assign rfl) rfl rfl rfl ?_)
  refine gl_nil ?_
  refine gk_seq ?_
  refine gc_ret ?_
  refine gk_ret rfl (resv_tmp rfl .nil) (List.nil_sublist _) ?_
  exact ⟨rfl, rfl⟩

/-- (*baize/topup.Bank).asked -/
theorem asked_spec (b : Nat) (now seat : Int) : Makes Try.prog 99 ([.pointer (some ⟨b, 0, none⟩), I64 now, I64 seat]).toArray (fun _ => True) (fun _ : Nat × Nat × Nat × Nat => True) (fun s => .slice (some ⟨s.1, 0, none⟩) 3 3) (fun s => [⟨s.1, .cells (([⟨149, [.pointer (some ⟨s.2.2.2, 0, none⟩)], 9⟩, ⟨150, [.pointer (some ⟨s.2.1, 0, none⟩), .pointer (some ⟨s.2.2.2, 0, none⟩)], 28⟩, ⟨151, [.pointer (some ⟨s.2.2.1, 0, none⟩)], 2⟩] : List Ru).flatMap Ru.L).toArray 148 (0, 0)⟩, ⟨s.2.1, .cells ([I64 seat] : List Value).toArray 3 (0, 0)⟩, ⟨s.2.2.1, .cells ([I64 now] : List Value).toArray 3 (0, 0)⟩, ⟨s.2.2.2, .cells ([.pointer (some ⟨b, 0, none⟩)] : List Value).toArray 24 (0, 0)⟩]) := by
  refine spec_walk (n := 14) Try.func99 rfl rfl rfl (fun w0 hpre => ?_)
  refine gc_seq ?_
  refine gc_region ?_
  refine gl_cons (gs_box rfl rfl rfl rfl (fun b3 => ?_))
  refine gl_cons (gs_box rfl rfl rfl rfl (fun b4 => ?_))
  refine gl_cons (gs_box rfl rfl rfl rfl (fun b5 => ?_))
  refine gl_cons (gs_val (val_assign rfl) rfl rfl rfl ?_)
  refine gl_nil ?_
  refine gk_seq ?_
  refine gc_seq ?_
  refine gc_region ?_
  refine gl_cons (gs_val (val_makeFunc .nil (.cons rfl .nil)) rfl rfl rfl ?_)
  refine gl_cons (gs_val (val_buildStr kze148 kpl148 (.cons rfl (.cons rfl .nil)) rfl (.cons rfl rfl rfl (by simp) (by first | ((with_reducible refine splice_all _ _ ?_); simp; done) | (simp only [splice, stL, digL, List.take_succ_cons, List.take_zero, List.drop_succ_cons, List.drop_zero, List.length_cons, List.length_nil, Nat.reduceAdd, Nat.reduceMul, Nat.zero_add, Nat.zero_mul, List.cons_append, List.nil_append]; exact rfl)) (.cons rfl rfl rfl (by simp) (by first | ((with_reducible refine splice_all _ _ ?_); simp; done) | (simp only [splice, stL, digL, List.take_succ_cons, List.take_zero, List.drop_succ_cons, List.drop_zero, List.length_cons, List.length_nil, Nat.reduceAdd, Nat.reduceMul, Nat.zero_add, Nat.zero_mul, List.cons_append, List.nil_append]; exact rfl)) .nil))) rfl rfl rfl ?_)
  refine gl_cons (gs_val (val_makeFunc .nil (.cons rfl (.cons rfl .nil))) rfl rfl rfl ?_)
  refine gl_cons (gs_val (val_buildStr kze148 kpl148 (.cons rfl (.cons rfl .nil)) rfl (.cons rfl rfl rfl (by simp) (by first | ((with_reducible refine splice_all _ _ ?_); simp; done) | (simp only [splice, stL, digL, List.take_succ_cons, List.take_zero, List.drop_succ_cons, List.drop_zero, List.length_cons, List.length_nil, Nat.reduceAdd, Nat.reduceMul, Nat.zero_add, Nat.zero_mul, List.cons_append, List.nil_append]; exact rfl)) (.cons rfl rfl rfl (by simp) (by first | ((with_reducible refine splice_all _ _ ?_); simp; done) | (simp only [splice, stL, digL, List.take_succ_cons, List.take_zero, List.drop_succ_cons, List.drop_zero, List.length_cons, List.length_nil, Nat.reduceAdd, Nat.reduceMul, Nat.zero_add, Nat.zero_mul, List.cons_append, List.nil_append]; exact rfl)) .nil))) rfl rfl rfl ?_)
  refine gl_cons (gs_val (val_makeFunc .nil (.cons rfl .nil)) rfl rfl rfl ?_)
  refine gl_cons (gs_val (val_buildStr kze148 kpl148 (.cons rfl (.cons rfl .nil)) rfl (.cons rfl rfl rfl (by simp) (by first | ((with_reducible refine splice_all _ _ ?_); simp; done) | (simp only [splice, stL, digL, List.take_succ_cons, List.take_zero, List.drop_succ_cons, List.drop_zero, List.length_cons, List.length_nil, Nat.reduceAdd, Nat.reduceMul, Nat.zero_add, Nat.zero_mul, List.cons_append, List.nil_append]; exact rfl)) (.cons rfl rfl rfl (by simp) (by first | ((with_reducible refine splice_all _ _ ?_); simp; done) | (simp only [splice, stL, digL, List.take_succ_cons, List.take_zero, List.drop_succ_cons, List.drop_zero, List.length_cons, List.length_nil, Nat.reduceAdd, Nat.reduceMul, Nat.zero_add, Nat.zero_mul, List.cons_append, List.nil_append]; exact rfl)) .nil))) rfl rfl rfl ?_)
  refine gl_cons (gs_buildSlice (zs := [.nilFunc, .int .i64 0, .nilFunc, .int .i64 0, .nilFunc, .int .i64 0]) ksl158 kze148 rfl rfl (.cons rfl (.cons rfl (.cons rfl .nil))) (.cons rfl rfl rfl (by simp) (by first | ((with_reducible refine splice_all _ _ ?_); simp; done) | (simp only [splice, stL, digL, List.take_succ_cons, List.take_zero, List.drop_succ_cons, List.drop_zero, List.length_cons, List.length_nil, Nat.reduceAdd, Nat.reduceMul, Nat.zero_add, Nat.zero_mul, List.cons_append, List.nil_append]; exact rfl)) (.cons rfl rfl rfl (by simp) (by first | ((with_reducible refine splice_all _ _ ?_); simp; done) | (simp only [splice, stL, digL, List.take_succ_cons, List.take_zero, List.drop_succ_cons, List.drop_zero, List.length_cons, List.length_nil, Nat.reduceAdd, Nat.reduceMul, Nat.zero_add, Nat.zero_mul, List.cons_append, List.nil_append]; exact rfl)) (.cons rfl rfl rfl (by simp) (by first | ((with_reducible refine splice_all _ _ ?_); simp; done) | (simp only [splice, stL, digL, List.take_succ_cons, List.take_zero, List.drop_succ_cons, List.drop_zero, List.length_cons, List.length_nil, Nat.reduceAdd, Nat.reduceMul, Nat.zero_add, Nat.zero_mul, List.cons_append, List.nil_append]; exact rfl)) .nil))) rfl rfl (fun b13 => ?_))
  refine gl_cons (gs_val (val_assign rfl) rfl rfl rfl ?_)
  refine gl_nil ?_
  refine gk_seq ?_
  refine gc_ret ?_
  refine gk_ret rfl (resv_tmp rfl .nil) (List.Sublist.refl _) ?_
  exact ⟨(b13, b5, b4, b3), trivial, rfl, rfl⟩

/-- (*baize/topup.Bank).Put$1 -/
theorem put1_spec (b4 b5 : Nat) (now : Int) (b : Nat) (sa : Option Addr) (n sc : Nat) (nm : Int) (p : Nat) (tb : BitVec 64) (num un : Int) (aa pa : Option Addr) (an ac pn pc : Nat) (ad : List Int) (pu : List Bool) (haa : ad.length = an) (hpp : pu.length = pn) : Pure Try.prog 100 ([.pointer (some ⟨b4, 0, none⟩), .pointer (some ⟨b5, 0, none⟩)]).toArray (fun w => Row w [] (some ⟨b4, 0, none⟩) [.pointer (some ⟨b, 0, none⟩)] ∧ Row w [] (some ⟨b5, 0, none⟩) [I64 now] ∧ Row w [] (some ⟨b, 0, none⟩) (bkL (.slice sa n sc) nm (.pointer (some ⟨p, 0, none⟩))) ∧ Row w [] (some ⟨p, 0, none⟩) (pdL tb num (.slice aa an ac) un (.slice pa pn pc))) (.bool (decide (¬ un < now))) := by
  refine spec_walk (n := 10) Try.func100 rfl rfl rfl (fun w0 hpre => ?_)
  refine gc_seq ?_
  refine gc_region ?_
  refine gl_cons (gs_val (val_assign rfl) rfl rfl rfl ?_)
  refine gl_nil ?_
  refine gk_seq ?_
  refine gc_seq ?_
  refine gc_drawAll kmixed (by kernel_rfl) ?_
  refine gq_val (val_load1 kag24 rfl ((sees_row hpre.1).part 0) rfl) rfl rfl rfl ?_
  refine gq_val (val_nilCheck rfl) rfl rfl rfl ?_
  refine gq_val (val_fieldAddr kfo154_2 rfl) rfl rfl rfl ?_
  refine gq_val (val_load1 kag152 rfl ((sees_row hpre.2.2.1).part 2) rfl) rfl rfl rfl ?_
  refine gq_val (val_load1 kag3 rfl ((sees_row hpre.2.1).part 0) rfl) rfl rfl rfl ?_
  refine gq_pure (enters kcall94 (.cons rfl (.cons rfl .nil))) (late_spec p tb num un (.slice aa an ac) (.slice pa pn pc) now) rfl rfl rfl (row_of_sees (sees_row hpre.2.2.2)) ?_
  refine gq_val (val_not_dec rfl) rfl rfl rfl ?_
  refine gq_val (val_assign rfl) rfl rfl rfl ?_
  refine gq_nil ?_
  refine gl_nil ?_
  refine gk_seq ?_
  refine gc_ret ?_
  refine gk_ret rfl (resv_tmp rfl .nil) (List.nil_sublist _) ?_
  exact ⟨rfl, rfl⟩

/-- (*baize/topup.Bank).Put$2 -/
theorem put2_spec (b4 b6 : Nat) (seat : Int) (b : Nat) (sa : Option Addr) (n sc : Nat) (nm : Int) (p : Nat) (tb : BitVec 64) (num un : Int) (aa pa : Option Addr) (an ac pn pc : Nat) (ad : List Int) (pu : List Bool) (haa : ad.length = an) (hpp : pu.length = pn) (hsr : 0 ≤ seat ∧ seat < (pu.length : Int)) : Pure Try.prog 101 ([.pointer (some ⟨b4, 0, none⟩), .pointer (some ⟨b6, 0, none⟩)]).toArray (fun w => Row w [] (some ⟨b4, 0, none⟩) [.pointer (some ⟨b, 0, none⟩)] ∧ Row w [] (some ⟨b6, 0, none⟩) [I64 seat] ∧ Row w [] (some ⟨b, 0, none⟩) (bkL (.slice sa n sc) nm (.pointer (some ⟨p, 0, none⟩))) ∧ Row w [] (some ⟨p, 0, none⟩) (pdL tb num (.slice aa an ac) un (.slice pa pn pc)) ∧ Row w [] pa (pu.map Value.bool)) (.bool (!(pu.getD seat.toNat false))) := by
  obtain ⟨i, rfl⟩ : ∃ i : Nat, seat = (i : Int) := ⟨seat.toNat, by omega⟩
  have hip : i < pu.length := by omega
  refine spec_walk (n := 14) Try.func101 rfl rfl rfl (fun w0 hpre => ?_)
  refine gc_seq ?_
  refine gc_region ?_
  refine gl_cons (gs_val (val_assign rfl) rfl rfl rfl ?_)
  refine gl_nil ?_
  refine gk_seq ?_
  refine gc_seq ?_
  refine gc_drawAll kmixed (by kernel_rfl) ?_
  refine gq_val (val_load1 kag24 rfl ((sees_row hpre.1).part 0) rfl) rfl rfl rfl ?_
  refine gq_val (val_nilCheck rfl) rfl rfl rfl ?_
  refine gq_val (val_fieldAddr kfo154_2 rfl) rfl rfl rfl ?_
  refine gq_val (val_load1 kag152 rfl ((sees_row hpre.2.2.1).part 2) rfl) rfl rfl rfl ?_
  refine gq_val (val_nilCheck rfl) rfl rfl rfl ?_
  refine gq_val (val_fieldAddr kfo157_1 rfl) rfl rfl rfl ?_
  refine gq_val (val_load1 kag55 rfl ((sees_row hpre.2.2.2.1).part 11) rfl) rfl rfl rfl ?_
  refine gq_val (val_load1 kag3 rfl ((sees_row hpre.2.1).part 0) rfl) rfl rfl rfl ?_
  refine gq_val (val_indexSli (m := i) ksl55 rfl rfl (by omega) (by omega) (sees_row hpre.2.2.2.2) (by (try simp only [List.length_map, Nat.mul_one, dig_len, inc_len, List.length_append, List.length_cons, List.length_nil, List.length_replicate]); omega)) rfl rfl rfl ?_
  refine gq_val (val_cast (v := .bool (decide (pu[i] = true))) (val_load1 kag4 rfl ((sees_row hpre.2.2.2.2).elem hip) rfl) (congrArg Value.bool Bool.decide_eq_true.symm)) rfl rfl rfl ?_
  refine gq_val (val_not_dec rfl) rfl rfl rfl ?_
  refine gq_val (val_assign rfl) rfl rfl rfl ?_
  refine gq_nil ?_
  refine gl_nil ?_
  refine gk_seq ?_
  refine gc_ret ?_
  refine gk_ret rfl (resv_tmp rfl .nil) (List.nil_sublist _) ?_
  exact ⟨congrArg Value.bool (by rw [getD_nat hip]; cases pu[i] <;> rfl), rfl⟩

/-- (*baize/topup.Bank).Put$3 -/
theorem put3_spec (b7 b4 b6 : Nat) (seat amt : Int) (b : Nat) (sa : Option Addr) (n sc : Nat) (nm : Int) (p : Nat) (tb : BitVec 64) (num un : Int) (aa pa : Option Addr) (an ac pn pc : Nat) (ad : List Int) (pu : List Bool) (haa : ad.length = an) (hpp : pu.length = pn) (hsr : 0 ≤ seat ∧ seat < (ad.length : Int)) : Pure Try.prog 102 ([.pointer (some ⟨b7, 0, none⟩), .pointer (some ⟨b4, 0, none⟩), .pointer (some ⟨b6, 0, none⟩)]).toArray (fun w => Row w [] (some ⟨b7, 0, none⟩) [I64 amt] ∧ Row w [] (some ⟨b4, 0, none⟩) [.pointer (some ⟨b, 0, none⟩)] ∧ Row w [] (some ⟨b6, 0, none⟩) [I64 seat] ∧ Row w [] (some ⟨b, 0, none⟩) (bkL (.slice sa n sc) nm (.pointer (some ⟨p, 0, none⟩))) ∧ Row w [] (some ⟨p, 0, none⟩) (pdL tb num (.slice aa an ac) un (.slice pa pn pc)) ∧ Row w [] aa (ad.map I64)) (.bool (decide (amt = ad.getD seat.toNat 0))) := by
  obtain ⟨i, rfl⟩ : ∃ i : Nat, seat = (i : Int) := ⟨seat.toNat, by omega⟩
  have hia : i < ad.length := by omega
  refine spec_walk (n := 17) Try.func102 rfl rfl rfl (fun w0 hpre => ?_)
  refine gc_seq ?_
  refine gc_region ?_
  refine gl_cons (gs_val (val_assign rfl) rfl rfl rfl ?_)
  refine gl_nil ?_
  refine gk_seq ?_
  refine gc_seq ?_
  refine gc_drawAll kmixed (by kernel_rfl) ?_
  refine gq_val (val_load1 kag3 rfl ((sees_row hpre.1).part 0) rfl) rfl rfl rfl ?_
  refine gq_val (val_load1 kag24 rfl ((sees_row hpre.2.1).part 0) rfl) rfl rfl rfl ?_
  refine gq_val (val_nilCheck rfl) rfl rfl rfl ?_
  refine gq_val (val_fieldAddr kfo154_2 rfl) rfl rfl rfl ?_
  refine gq_val (val_load1 kag152 rfl ((sees_row hpre.2.2.2.1).part 2) rfl) rfl rfl rfl ?_
  refine gq_val (val_nilCheck rfl) rfl rfl rfl ?_
  refine gq_val (val_fieldAddr kfo157_0 rfl) rfl rfl rfl ?_
  refine gq_val (val_fieldAddr kfo33_2 rfl) rfl rfl rfl ?_
  refine gq_val (val_load1 kag22 rfl ((sees_row hpre.2.2.2.2.1).part 9) rfl) rfl rfl rfl ?_
  refine gq_val (val_load1 kag3 rfl ((sees_row hpre.2.2.1).part 0) rfl) rfl rfl rfl ?_
  refine gq_val (val_indexSli (m := i) ksl22 rfl rfl (by omega) (by omega) (sees_row hpre.2.2.2.2.2) (by (try simp only [List.length_map, Nat.mul_one, dig_len, inc_len, List.length_append, List.length_cons, List.length_nil, List.length_replicate]); omega)) rfl rfl rfl ?_
  refine gq_val (val_load1 kag3 rfl ((sees_row hpre.2.2.2.2.2).elem hia) rfl) rfl rfl rfl ?_
  refine gq_val (val_eql rfl rfl) rfl rfl rfl ?_
  refine gq_val (val_assign rfl) rfl rfl rfl ?_
  refine gq_nil ?_
  refine gl_nil ?_
  refine gk_seq ?_
  refine gc_ret ?_
  refine gk_ret rfl (resv_tmp rfl .nil) (List.nil_sublist _) ?_
  exact ⟨congrArg Value.bool (by rw [getD_nat hia]), rfl⟩

/-- (*baize/topup.Bank).Put -/
theorem put_nil (now seat amt : Int) : Pure Try.prog 27 ([.pointer none, I64 now, I64 seat, I64 amt]).toArray (fun _ => True) (I64 1) := by
  refine spec_walk (n := 75) Try.func27 rfl rfl rfl (fun w0 hpre => ?_)
  refine gc_seq ?_
  refine gc_region ?_
  refine gl_cons (gs_box rfl rfl rfl rfl (fun b4 => ?_))
  refine gl_cons (gs_box rfl rfl rfl rfl (fun b5 => ?_))
  refine gl_cons (gs_box rfl rfl rfl rfl (fun b6 => ?_))
  refine gl_cons (gs_box rfl rfl rfl rfl (fun b7 => ?_))
  refine gl_cons (gs_val (val_assign rfl) rfl rfl rfl ?_)
  refine gl_nil ?_
  refine gk_seq ?_
  refine gc_seq ?_
  refine gc_seq ?_
  refine gc_region ?_
  refine gl_cons (gs_val (val_load1 kag24 rfl (sees_mem (by repeat (first | exact .head _ | refine .tail _ ?_ | refine List.mem_append_right _ ?_))) rfl) rfl rfl rfl ?_)
  refine gl_cons (gs_val (val_eqlNil kun24 rfl rfl) rfl rfl rfl ?_)
  refine gl_nil ?_
  refine gk_seq ?_
  refine gc_true rfl ?_
  refine gc_seq ?_
  refine gc_region ?_
  refine gl_cons (gs_val (val_assign rfl) rfl rfl rfl ?_)
  refine gl_nil ?_
  refine gk_seq ?_
  refine gc_ret ?_
  refine gk_seq_ret ?_
  refine gk_ret rfl (resv_tmp rfl .nil) (List.nil_sublist _) ?_
  exact ⟨rfl, rfl⟩

set_option maxRecDepth 8000 in
set_option maxHeartbeats 1000000 in
/-- (*baize/topup.Bank).Put -/
theorem put_none (b : Nat) (sa : Option Addr) (sc : Nat) (nm : Int) (st : List Int) (now seat amt : Int) : Pure Try.prog 27 ([.pointer (some ⟨b, 0, none⟩), I64 now, I64 seat, I64 amt]).toArray (fun w => Row w [] (some ⟨b, 0, none⟩) (bkL (.slice sa st.length sc) nm (.pointer none))) (I64 9) := by
  refine spec_walk (n := 75) Try.func27 rfl rfl rfl (fun w0 hpre => ?_)
  refine gc_seq ?_
  refine gc_region ?_
  refine gl_cons (gs_box rfl rfl rfl rfl (fun b4 => ?_))
  refine gl_cons (gs_box rfl rfl rfl rfl (fun b5 => ?_))
  refine gl_cons (gs_box rfl rfl rfl rfl (fun b6 => ?_))
  refine gl_cons (gs_box rfl rfl rfl rfl (fun b7 => ?_))
  refine gl_cons (gs_val (val_assign rfl) rfl rfl rfl ?_)
  refine gl_nil ?_
  refine gk_seq ?_
  refine gc_seq ?_
  refine gc_seq ?_
  refine gc_region ?_
  refine gl_cons (gs_val (val_load1 kag24 rfl (sees_mem (by repeat (first | exact .head _ | refine .tail _ ?_ | refine List.mem_append_right _ ?_))) rfl) rfl rfl rfl ?_)
  refine gl_cons (gs_val (val_eqlNil kun24 rfl rfl) rfl rfl rfl ?_)
  refine gl_nil ?_
  refine gk_seq ?_
  refine gc_false rfl ?_
  refine gc_skip ?_
  refine gk_seq ?_
  refine gc_seq ?_
  refine gc_region ?_
  refine gl_cons (gs_val (val_load1 kag24 rfl (sees_mem (by repeat (first | exact .head _ | refine .tail _ ?_ | refine List.mem_append_right _ ?_))) rfl) rfl rfl rfl ?_)
  refine gl_cons (gs_val (val_load1 kag3 rfl (sees_mem (by repeat (first | exact .head _ | refine .tail _ ?_ | refine List.mem_append_right _ ?_))) rfl) rfl rfl rfl ?_)
  refine gl_cons (gs_val (val_load1 kag3 rfl (sees_mem (by repeat (first | exact .head _ | refine .tail _ ?_ | refine List.mem_append_right _ ?_))) rfl) rfl rfl rfl ?_)
  refine gl_cons (gs_makes (enters kcall99 (.cons rfl (.cons rfl (.cons rfl .nil)))) (asked_spec b now seat) rfl rfl rfl (fun _ _ => trivial) (fun ⟨rb, c5, c4, c3⟩ _ => ?_))
  refine gx_perm (.refl (_ :: _ :: _ :: _ :: _)) ?_
  refine gl_cons (gs_val (val_makeFunc .nil (.cons rfl (.cons rfl .nil))) rfl rfl rfl ?_)
  refine gl_cons (gs_val (val_buildStr kze148 kpl148 (.cons rfl (.cons rfl .nil)) rfl (.cons rfl rfl rfl (by simp) (by first | ((with_reducible refine splice_all _ _ ?_); simp; done) | (simp only [splice, stL, digL, List.take_succ_cons, List.take_zero, List.drop_succ_cons, List.drop_zero, List.length_cons, List.length_nil, Nat.reduceAdd, Nat.reduceMul, Nat.zero_add, Nat.zero_mul, List.cons_append, List.nil_append]; exact rfl)) (.cons rfl rfl rfl (by simp) (by first | ((with_reducible refine splice_all _ _ ?_); simp; done) | (simp only [splice, stL, digL, List.take_succ_cons, List.take_zero, List.drop_succ_cons, List.drop_zero, List.length_cons, List.length_nil, Nat.reduceAdd, Nat.reduceMul, Nat.zero_add, Nat.zero_mul, List.cons_append, List.nil_append]; exact rfl)) .nil))) rfl rfl rfl ?_)
  refine gl_cons (gs_val (val_makeFunc .nil (.cons rfl (.cons rfl .nil))) rfl rfl rfl ?_)
  refine gl_cons (gs_val (val_buildStr kze148 kpl148 (.cons rfl (.cons rfl .nil)) rfl (.cons rfl rfl rfl (by simp) (by first | ((with_reducible refine splice_all _ _ ?_); simp; done) | (simp only [splice, stL, digL, List.take_succ_cons, List.take_zero, List.drop_succ_cons, List.drop_zero, List.length_cons, List.length_nil, Nat.reduceAdd, Nat.reduceMul, Nat.zero_add, Nat.zero_mul, List.cons_append, List.nil_append]; exact rfl)) (.cons rfl rfl rfl (by simp) (by first | ((with_reducible refine splice_all _ _ ?_); simp; done) | (simp only [splice, stL, digL, List.take_succ_cons, List.take_zero, List.drop_succ_cons, List.drop_zero, List.length_cons, List.length_nil, Nat.reduceAdd, Nat.reduceMul, Nat.zero_add, Nat.zero_mul, List.cons_append, List.nil_append]; exact rfl)) .nil))) rfl rfl rfl ?_)
  refine gl_cons (gs_val (val_makeFunc .nil (.cons rfl (.cons rfl (.cons rfl .nil)))) rfl rfl rfl ?_)
  refine gl_cons (gs_val (val_buildStr kze148 kpl148 (.cons rfl (.cons rfl .nil)) rfl (.cons rfl rfl rfl (by simp) (by first | ((with_reducible refine splice_all _ _ ?_); simp; done) | (simp only [splice, stL, digL, List.take_succ_cons, List.take_zero, List.drop_succ_cons, List.drop_zero, List.length_cons, List.length_nil, Nat.reduceAdd, Nat.reduceMul, Nat.zero_add, Nat.zero_mul, List.cons_append, List.nil_append]; exact rfl)) (.cons rfl rfl rfl (by simp) (by first | ((with_reducible refine splice_all _ _ ?_); simp; done) | (simp only [splice, stL, digL, List.take_succ_cons, List.take_zero, List.drop_succ_cons, List.drop_zero, List.length_cons, List.length_nil, Nat.reduceAdd, Nat.reduceMul, Nat.zero_add, Nat.zero_mul, List.cons_append, List.nil_append]; exact rfl)) .nil))) rfl rfl rfl ?_)
  refine gl_cons (gs_buildSlice (zs := [.nilFunc, .int .i64 0, .nilFunc, .int .i64 0, .nilFunc, .int .i64 0]) ksl158 kze148 rfl rfl (.cons rfl (.cons rfl (.cons rfl .nil))) (.cons rfl rfl rfl (by simp) (by first | ((with_reducible refine splice_all _ _ ?_); simp; done) | (simp only [splice, stL, digL, List.take_succ_cons, List.take_zero, List.drop_succ_cons, List.drop_zero, List.length_cons, List.length_nil, Nat.reduceAdd, Nat.reduceMul, Nat.zero_add, Nat.zero_mul, List.cons_append, List.nil_append]; exact rfl)) (.cons rfl rfl rfl (by simp) (by first | ((with_reducible refine splice_all _ _ ?_); simp; done) | (simp only [splice, stL, digL, List.take_succ_cons, List.take_zero, List.drop_succ_cons, List.drop_zero, List.length_cons, List.length_nil, Nat.reduceAdd, Nat.reduceMul, Nat.zero_add, Nat.zero_mul, List.cons_append, List.nil_append]; exact rfl)) (.cons rfl rfl rfl (by simp) (by first | ((with_reducible refine splice_all _ _ ?_); simp; done) | (simp only [splice, stL, digL, List.take_succ_cons, List.take_zero, List.drop_succ_cons, List.drop_zero, List.length_cons, List.length_nil, Nat.reduceAdd, Nat.reduceMul, Nat.zero_add, Nat.zero_mul, List.cons_append, List.nil_append]; exact rfl)) .nil))) rfl rfl (fun b24 => ?_))
  refine gl_cons (gs_append ksl158 kze148 rfl rfl rfl rfl rfl rfl (own_lit (e := 148) (size := 2) (n := 3) (b := rb) (xs := (([⟨149, [.pointer (some ⟨c3, 0, none⟩)], 9⟩, ⟨150, [.pointer (some ⟨c5, 0, none⟩), .pointer (some ⟨c3, 0, none⟩)], 28⟩, ⟨151, [.pointer (some ⟨c4, 0, none⟩)], 2⟩] : List Ru).flatMap Ru.L)) rfl) (fun _ => by first | exact .here | exact .headR | exact .app | exact .tail .here | exact .tail .headR | exact .tail .app | exact .tail (.tail .here) | exact .tail (.tail .headR) | exact .tail (.tail .app) | exact .tail (.tail (.tail .here)) | exact .tail (.tail (.tail .headR)) | exact .tail (.tail (.tail .app)) | exact .tail (.tail (.tail (.tail .here))) | exact .tail (.tail (.tail (.tail .headR))) | exact .tail (.tail (.tail (.tail .app))) | exact .tail (.tail (.tail (.tail (.tail .here)))) | exact .tail (.tail (.tail (.tail (.tail .headR)))) | exact .tail (.tail (.tail (.tail (.tail .app)))) | exact .appr .here | exact .appr .headR | exact .appr .app | exact .tail (.appr .here) | exact .tail (.appr .headR) | exact .tail (.appr .app) | exact .tail (.tail (.appr .here)) | exact .tail (.tail (.appr .headR)) | exact .tail (.tail (.appr .app)) | exact .appr (.tail .here) | exact .appr (.tail .headR) | exact .appr (.tail .app) | exact .appr (.tail (.tail .here)) | exact .appr (.tail (.tail .headR)) | exact .appr (.tail (.tail .app)) | exact .appr (.appr .here) | exact .appr (.appr .headR) | exact .appr (.appr .app) | exact .tail (.appr (.appr .here)) | exact .tail (.appr (.appr .headR)) | exact .tail (.appr (.appr .app)) | exact .appr (.appr (.tail .here)) | exact .appr (.appr (.tail .headR)) | exact .appr (.appr (.tail .app)) | exact .appr (.appr (.appr .here)) | exact .appr (.appr (.appr .headR)) | exact .appr (.appr (.appr .app))) (brings_slice ksl158 (sees_all (by repeat (first | exact .head _ | refine .tail _ ?_ | refine List.mem_append_right _ ?_))) rfl (fun v hv => List.all_eq_true.1 rfl v hv)) (by decide) (fun ba25 c25 N25 hown25 => ?_))
  refine gl_cons (gs_pure (enters kcall79 (.cons rfl .nil)) (first_spec ba25 6 c25 [⟨149, [.pointer (some ⟨c3, 0, none⟩)], 9⟩, ⟨150, [.pointer (some ⟨c5, 0, none⟩), .pointer (some ⟨c3, 0, none⟩)], 28⟩, ⟨151, [.pointer (some ⟨c4, 0, none⟩)], 2⟩, ⟨100, [.pointer (some ⟨b4, 0, none⟩), .pointer (some ⟨b5, 0, none⟩)], 19⟩, ⟨101, [.pointer (some ⟨b4, 0, none⟩), .pointer (some ⟨b6, 0, none⟩)], 7⟩, ⟨102, [.pointer (some ⟨b7, 0, none⟩), .pointer (some ⟨b4, 0, none⟩), .pointer (some ⟨b6, 0, none⟩)], 22⟩] 9 (fun w => Row w [] (some ⟨c3, 0, none⟩) [.pointer (some ⟨b, 0, none⟩)] ∧ Row w [] (some ⟨b, 0, none⟩) (bkL (.slice sa st.length sc) nm (.pointer none))) (stable_and stable_row stable_row) (.stop kcall149 (asked1_none c3 b sa st.length sc nm)) rfl (by decide)) rfl rfl rfl (fun w hi => ⟨row_of_sees (hown25.look (by repeat (first | exact .here | exact .headR | exact .app | refine .tail ?_ | refine .appr ?_))) w hi, row_of_sees (sees_all (by repeat (first | exact .head _ | refine .tail _ ?_ | refine List.mem_append_right _ ?_))) w hi, row_of_sees (sees_row hpre) w hi⟩) ?_)
  refine gl_cons (gs_val (val_assign rfl) rfl rfl rfl ?_)
  refine gl_nil ?_
  refine gk_seq ?_
  refine gc_seq ?_
  refine gc_seq ?_
  refine gc_region ?_
  refine gl_cons (gs_val (val_move rfl) rfl rfl rfl ?_)
  refine gl_cons (gs_val (val_yes (val_neq rfl rfl) (by decide)) rfl rfl rfl ?_)
  refine gl_nil ?_
  refine gk_seq ?_
  refine gc_true rfl ?_
  refine gc_seq ?_
  refine gc_region ?_
  refine gl_cons (gs_val (val_move rfl) rfl rfl rfl ?_)
  refine gl_cons (gs_val (val_assign rfl) rfl rfl rfl ?_)
  refine gl_nil ?_
  refine gk_seq ?_
  refine gc_ret ?_
  refine gk_seq_ret ?_
  refine gk_ret rfl (resv_tmp rfl .nil) (List.nil_sublist _) ?_
  exact ⟨rfl, rfl⟩

set_option maxRecDepth 8000 in
set_option maxHeartbeats 1000000 in
/-- (*baize/topup.Bank).Put -/
theorem put_err (b : Nat) (sa : Option Addr) (sc : Nat) (nm : Int) (st : List Int) (now seat amt : Int) (p : Nat) (tb : BitVec 64) (num un : Int) (aa pa : Option Addr) (ac pc : Nat) (ad : List Int) (pu : List Bool) (hq1 : ad.length = st.length) (hq2 : pu.length = st.length) (he : ¬ putE ⟨st, nm, some ⟨tb, num, ad, un, pu⟩⟩ now seat amt = 0) : Pure Try.prog 27 ([.pointer (some ⟨b, 0, none⟩), I64 now, I64 seat, I64 amt]).toArray (fun w => Row w [] (some ⟨b, 0, none⟩) (bkL (.slice sa st.length sc) nm (.pointer (some ⟨p, 0, none⟩))) ∧ Row w [] (some ⟨p, 0, none⟩) (pdL tb num (.slice aa ad.length ac) un (.slice pa pu.length pc)) ∧ Row w [] aa (ad.map I64) ∧ Row w [] pa (pu.map Value.bool)) (I64 (putE ⟨st, nm, some ⟨tb, num, ad, un, pu⟩⟩ now seat amt)) := by
  refine spec_walk (n := 75) Try.func27 rfl rfl rfl (fun w0 hpre => ?_)
  refine gc_seq ?_
  refine gc_region ?_
  refine gl_cons (gs_box rfl rfl rfl rfl (fun b4 => ?_))
  refine gl_cons (gs_box rfl rfl rfl rfl (fun b5 => ?_))
  refine gl_cons (gs_box rfl rfl rfl rfl (fun b6 => ?_))
  refine gl_cons (gs_box rfl rfl rfl rfl (fun b7 => ?_))
  refine gl_cons (gs_val (val_assign rfl) rfl rfl rfl ?_)
  refine gl_nil ?_
  refine gk_seq ?_
  refine gc_seq ?_
  refine gc_seq ?_
  refine gc_region ?_
  refine gl_cons (gs_val (val_load1 kag24 rfl (sees_mem (by repeat (first | exact .head _ | refine .tail _ ?_ | refine List.mem_append_right _ ?_))) rfl) rfl rfl rfl ?_)
  refine gl_cons (gs_val (val_eqlNil kun24 rfl rfl) rfl rfl rfl ?_)
  refine gl_nil ?_
  refine gk_seq ?_
  refine gc_false rfl ?_
  refine gc_skip ?_
  refine gk_seq ?_
  refine gc_seq ?_
  refine gc_region ?_
  refine gl_cons (gs_val (val_load1 kag24 rfl (sees_mem (by repeat (first | exact .head _ | refine .tail _ ?_ | refine List.mem_append_right _ ?_))) rfl) rfl rfl rfl ?_)
  refine gl_cons (gs_val (val_load1 kag3 rfl (sees_mem (by repeat (first | exact .head _ | refine .tail _ ?_ | refine List.mem_append_right _ ?_))) rfl) rfl rfl rfl ?_)
  refine gl_cons (gs_val (val_load1 kag3 rfl (sees_mem (by repeat (first | exact .head _ | refine .tail _ ?_ | refine List.mem_append_right _ ?_))) rfl) rfl rfl rfl ?_)
  refine gl_cons (gs_makes (enters kcall99 (.cons rfl (.cons rfl (.cons rfl .nil)))) (asked_spec b now seat) rfl rfl rfl (fun _ _ => trivial) (fun ⟨rb, c5, c4, c3⟩ _ => ?_))
  refine gx_perm (.refl (_ :: _ :: _ :: _ :: _)) ?_
  refine gl_cons (gs_val (val_makeFunc .nil (.cons rfl (.cons rfl .nil))) rfl rfl rfl ?_)
  refine gl_cons (gs_val (val_buildStr kze148 kpl148 (.cons rfl (.cons rfl .nil)) rfl (.cons rfl rfl rfl (by simp) (by first | ((with_reducible refine splice_all _ _ ?_); simp; done) | (simp only [splice, stL, digL, List.take_succ_cons, List.take_zero, List.drop_succ_cons, List.drop_zero, List.length_cons, List.length_nil, Nat.reduceAdd, Nat.reduceMul, Nat.zero_add, Nat.zero_mul, List.cons_append, List.nil_append]; exact rfl)) (.cons rfl rfl rfl (by simp) (by first | ((with_reducible refine splice_all _ _ ?_); simp; done) | (simp only [splice, stL, digL, List.take_succ_cons, List.take_zero, List.drop_succ_cons, List.drop_zero, List.length_cons, List.length_nil, Nat.reduceAdd, Nat.reduceMul, Nat.zero_add, Nat.zero_mul, List.cons_append, List.nil_append]; exact rfl)) .nil))) rfl rfl rfl ?_)
  refine gl_cons (gs_val (val_makeFunc .nil (.cons rfl (.cons rfl .nil))) rfl rfl rfl ?_)
  refine gl_cons (gs_val (val_buildStr kze148 kpl148 (.cons rfl (.cons rfl .nil)) rfl (.cons rfl rfl rfl (by simp) (by first | ((with_reducible refine splice_all _ _ ?_); simp; done) | (simp only [splice, stL, digL, List.take_succ_cons, List.take_zero, List.drop_succ_cons, List.drop_zero, List.length_cons, List.length_nil, Nat.reduceAdd, Nat.reduceMul, Nat.zero_add, Nat.zero_mul, List.cons_append, List.nil_append]; exact rfl)) (.cons rfl rfl rfl (by simp) (by first | ((with_reducible refine splice_all _ _ ?_); simp; done) | (simp only [splice, stL, digL, List.take_succ_cons, List.take_zero, List.drop_succ_cons, List.drop_zero, List.length_cons, List.length_nil, Nat.reduceAdd, Nat.reduceMul, Nat.zero_add, Nat.zero_mul, List.cons_append, List.nil_append]; exact rfl)) .nil))) rfl rfl rfl ?_)
  refine gl_cons (gs_val (val_makeFunc .nil (.cons rfl (.cons rfl (.cons rfl .nil)))) rfl rfl rfl ?_)
  refine gl_cons (gs_val (val_buildStr kze148 kpl148 (.cons rfl (.cons rfl .nil)) rfl (.cons rfl rfl rfl (by simp) (by first | ((with_reducible refine splice_all _ _ ?_); simp; done) | (simp only [splice, stL, digL, List.take_succ_cons, List.take_zero, List.drop_succ_cons, List.drop_zero, List.length_cons, List.length_nil, Nat.reduceAdd, Nat.reduceMul, Nat.zero_add, Nat.zero_mul, List.cons_append, List.nil_append]; exact rfl)) (.cons rfl rfl rfl (by simp) (by first | ((with_reducible refine splice_all _ _ ?_); simp; done) | (simp only [splice, stL, digL, List.take_succ_cons, List.take_zero, List.drop_succ_cons, List.drop_zero, List.length_cons, List.length_nil, Nat.reduceAdd, Nat.reduceMul, Nat.zero_add, Nat.zero_mul, List.cons_append, List.nil_append]; exact rfl)) .nil))) rfl rfl rfl ?_)
  refine gl_cons (gs_buildSlice (zs := [.nilFunc, .int .i64 0, .nilFunc, .int .i64 0, .nilFunc, .int .i64 0]) ksl158 kze148 rfl rfl (.cons rfl (.cons rfl (.cons rfl .nil))) (.cons rfl rfl rfl (by simp) (by first | ((with_reducible refine splice_all _ _ ?_); simp; done) | (simp only [splice, stL, digL, List.take_succ_cons, List.take_zero, List.drop_succ_cons, List.drop_zero, List.length_cons, List.length_nil, Nat.reduceAdd, Nat.reduceMul, Nat.zero_add, Nat.zero_mul, List.cons_append, List.nil_append]; exact rfl)) (.cons rfl rfl rfl (by simp) (by first | ((with_reducible refine splice_all _ _ ?_); simp; done) | (simp only [splice, stL, digL, List.take_succ_cons, List.take_zero, List.drop_succ_cons, List.drop_zero, List.length_cons, List.length_nil, Nat.reduceAdd, Nat.reduceMul, Nat.zero_add, Nat.zero_mul, List.cons_append, List.nil_append]; exact rfl)) (.cons rfl rfl rfl (by simp) (by first | ((with_reducible refine splice_all _ _ ?_); simp; done) | (simp only [splice, stL, digL, List.take_succ_cons, List.take_zero, List.drop_succ_cons, List.drop_zero, List.length_cons, List.length_nil, Nat.reduceAdd, Nat.reduceMul, Nat.zero_add, Nat.zero_mul, List.cons_append, List.nil_append]; exact rfl)) .nil))) rfl rfl (fun b24 => ?_))
  refine gl_cons (gs_append ksl158 kze148 rfl rfl rfl rfl rfl rfl (own_lit (e := 148) (size := 2) (n := 3) (b := rb) (xs := (([⟨149, [.pointer (some ⟨c3, 0, none⟩)], 9⟩, ⟨150, [.pointer (some ⟨c5, 0, none⟩), .pointer (some ⟨c3, 0, none⟩)], 28⟩, ⟨151, [.pointer (some ⟨c4, 0, none⟩)], 2⟩] : List Ru).flatMap Ru.L)) rfl) (fun _ => by first | exact .here | exact .headR | exact .app | exact .tail .here | exact .tail .headR | exact .tail .app | exact .tail (.tail .here) | exact .tail (.tail .headR) | exact .tail (.tail .app) | exact .tail (.tail (.tail .here)) | exact .tail (.tail (.tail .headR)) | exact .tail (.tail (.tail .app)) | exact .tail (.tail (.tail (.tail .here))) | exact .tail (.tail (.tail (.tail .headR))) | exact .tail (.tail (.tail (.tail .app))) | exact .tail (.tail (.tail (.tail (.tail .here)))) | exact .tail (.tail (.tail (.tail (.tail .headR)))) | exact .tail (.tail (.tail (.tail (.tail .app)))) | exact .appr .here | exact .appr .headR | exact .appr .app | exact .tail (.appr .here) | exact .tail (.appr .headR) | exact .tail (.appr .app) | exact .tail (.tail (.appr .here)) | exact .tail (.tail (.appr .headR)) | exact .tail (.tail (.appr .app)) | exact .appr (.tail .here) | exact .appr (.tail .headR) | exact .appr (.tail .app) | exact .appr (.tail (.tail .here)) | exact .appr (.tail (.tail .headR)) | exact .appr (.tail (.tail .app)) | exact .appr (.appr .here) | exact .appr (.appr .headR) | exact .appr (.appr .app) | exact .tail (.appr (.appr .here)) | exact .tail (.appr (.appr .headR)) | exact .tail (.appr (.appr .app)) | exact .appr (.appr (.tail .here)) | exact .appr (.appr (.tail .headR)) | exact .appr (.appr (.tail .app)) | exact .appr (.appr (.appr .here)) | exact .appr (.appr (.appr .headR)) | exact .appr (.appr (.appr .app))) (brings_slice ksl158 (sees_all (by repeat (first | exact .head _ | refine .tail _ ?_ | refine List.mem_append_right _ ?_))) rfl (fun v hv => List.all_eq_true.1 rfl v hv)) (by decide) (fun ba25 c25 N25 hown25 => ?_))
  refine gl_cons (gs_pure (enters kcall79 (.cons rfl .nil)) (first_spec ba25 6 c25 [⟨149, [.pointer (some ⟨c3, 0, none⟩)], 9⟩, ⟨150, [.pointer (some ⟨c5, 0, none⟩), .pointer (some ⟨c3, 0, none⟩)], 28⟩, ⟨151, [.pointer (some ⟨c4, 0, none⟩)], 2⟩, ⟨100, [.pointer (some ⟨b4, 0, none⟩), .pointer (some ⟨b5, 0, none⟩)], 19⟩, ⟨101, [.pointer (some ⟨b4, 0, none⟩), .pointer (some ⟨b6, 0, none⟩)], 7⟩, ⟨102, [.pointer (some ⟨b7, 0, none⟩), .pointer (some ⟨b4, 0, none⟩), .pointer (some ⟨b6, 0, none⟩)], 22⟩] (putE ⟨st, nm, some ⟨tb, num, ad, un, pu⟩⟩ now seat amt) (fun w => Row w [] (some ⟨c3, 0, none⟩) [.pointer (some ⟨b, 0, none⟩)] ∧ Row w [] (some ⟨c4, 0, none⟩) [I64 now] ∧ Row w [] (some ⟨c5, 0, none⟩) [I64 seat] ∧ Row w [] (some ⟨b4, 0, none⟩) [.pointer (some ⟨b, 0, none⟩)] ∧ Row w [] (some ⟨b5, 0, none⟩) [I64 now] ∧ Row w [] (some ⟨b6, 0, none⟩) [I64 seat] ∧ Row w [] (some ⟨b7, 0, none⟩) [I64 amt] ∧ Row w [] (some ⟨b, 0, none⟩) (bkL (.slice sa st.length sc) nm (.pointer (some ⟨p, 0, none⟩))) ∧ Row w [] (some ⟨p, 0, none⟩) (pdL tb num (.slice aa ad.length ac) un (.slice pa pu.length pc)) ∧ Row w [] aa (ad.map I64) ∧ Row w [] pa (pu.map Value.bool)) (stable_and stable_row (stable_and stable_row (stable_and stable_row (stable_and stable_row (stable_and stable_row (stable_and stable_row (stable_and stable_row (stable_and stable_row (stable_and stable_row (stable_and stable_row stable_row)))))))))) (AllR.ok kcall149 (pure_pre (asked1_some c3 p b sa st.length sc nm) (fun w h => ⟨h.1, h.2.2.2.2.2.2.2.1⟩)) (AllR.if' kcall150 (pure_pre (asked2_spec c5 c3 seat (.pointer (some ⟨p, 0, none⟩)) b sa st.length sc nm) (fun w h => ⟨h.2.2.1, h.1, h.2.2.2.2.2.2.2.1⟩)) (fun g2 => AllR.if' kcall151 (pure_pre (asked3_spec c4 now) (fun w h => h.2.1)) (fun g3 => AllR.if' kcall100 (pure_pre (put1_spec b4 b5 now b sa st.length sc nm p tb num un aa pa ad.length ac pu.length pc ad pu rfl rfl) (fun w h => ⟨h.2.2.2.1, h.2.2.2.2.1, h.2.2.2.2.2.2.2.1, h.2.2.2.2.2.2.2.2.1⟩)) (fun g4 => AllR.if' kcall101 (pure_pre (put2_spec b4 b6 seat b sa st.length sc nm p tb num un aa pa ad.length ac pu.length pc ad pu rfl rfl (by have e1 : 0 ≤ seat ∧ seat < (st.length : Int) := of_decide_eq_true g2; omega)) (fun w h => ⟨h.2.2.2.1, h.2.2.2.2.2.1, h.2.2.2.2.2.2.2.1, h.2.2.2.2.2.2.2.2.1, h.2.2.2.2.2.2.2.2.2.2⟩)) (fun g5 => AllR.if' kcall102 (pure_pre (put3_spec b7 b4 b6 seat amt b sa st.length sc nm p tb num un aa pa ad.length ac pu.length pc ad pu rfl rfl (by have e1 : 0 ≤ seat ∧ seat < (st.length : Int) := of_decide_eq_true g2; omega)) (fun w h => ⟨h.2.2.2.2.2.2.1, h.2.2.2.1, h.2.2.2.2.2.1, h.2.2.2.2.2.2.2.1, h.2.2.2.2.2.2.2.2.1, h.2.2.2.2.2.2.2.2.2.1⟩)) (fun g6 => .nil))))))) rfl (by decide)) rfl rfl rfl (fun w hi => ⟨row_of_sees (hown25.look (by repeat (first | exact .here | exact .headR | exact .app | refine .tail ?_ | refine .appr ?_))) w hi, (row_of_sees (sees_all (by repeat (first | exact .head _ | refine .tail _ ?_ | refine List.mem_append_right _ ?_)))) w hi, (row_of_sees (sees_all (by repeat (first | exact .head _ | refine .tail _ ?_ | refine List.mem_append_right _ ?_)))) w hi, (row_of_sees (sees_all (by repeat (first | exact .head _ | refine .tail _ ?_ | refine List.mem_append_right _ ?_)))) w hi, (row_of_sees (sees_all (by repeat (first | exact .head _ | refine .tail _ ?_ | refine List.mem_append_right _ ?_)))) w hi, (row_of_sees (sees_all (by repeat (first | exact .head _ | refine .tail _ ?_ | refine List.mem_append_right _ ?_)))) w hi, (row_of_sees (sees_all (by repeat (first | exact .head _ | refine .tail _ ?_ | refine List.mem_append_right _ ?_)))) w hi, (row_of_sees (sees_all (by repeat (first | exact .head _ | refine .tail _ ?_ | refine List.mem_append_right _ ?_)))) w hi, (row_of_sees (sees_row hpre.1)) w hi, (row_of_sees (sees_row hpre.2.1)) w hi, (row_of_sees (sees_row hpre.2.2.1)) w hi, (row_of_sees (sees_row hpre.2.2.2)) w hi⟩) ?_)
  refine gl_cons (gs_val (val_assign rfl) rfl rfl rfl ?_)
  refine gl_nil ?_
  refine gk_seq ?_
  refine gc_seq ?_
  refine gc_seq ?_
  refine gc_region ?_
  refine gl_cons (gs_val (val_move rfl) rfl rfl rfl ?_)
  refine gl_cons (gs_val (val_yes (val_neq rfl rfl) he) rfl rfl rfl ?_)
  refine gl_nil ?_
  refine gk_seq ?_
  refine gc_true rfl ?_
  refine gc_seq ?_
  refine gc_region ?_
  refine gl_cons (gs_val (val_move rfl) rfl rfl rfl ?_)
  refine gl_cons (gs_val (val_assign rfl) rfl rfl rfl ?_)
  refine gl_nil ?_
  refine gk_seq ?_
  refine gc_ret ?_
  refine gk_seq_ret ?_
  refine gk_ret rfl (resv_tmp rfl .nil) (List.nil_sublist _) ?_
  exact ⟨rfl, rfl⟩

end Go.Proofs.Ytddckbhlfeegoaa
