/- The walk of functions of the program: what each computes, for every input. -/
import Derived.Test.YtddckbhlfeegoaaWBFacts
import Derived.Test.YtddckbhlfeegoaaWBtopup3
namespace Go.Proofs.Ytddckbhlfeegoaa
open Go Go.Eng
set_option linter.unusedVariables false
set_option linter.unusedSimpArgs false

/-- (baize/topup.Raise).clone -/
theorem raClone_spec (t : BitVec 64) (num un : Int) (ra : Option Addr) (n c : Nat) (ad : List Int) (hn : ad.length = n) (hb : n ≤ 1048576) : Makes Try.prog 87 ([.agg (raL t num (.slice ra n c) un).toArray]).toArray (fun w => Row w [] ra (ad.map I64)) (fun s : Option Addr × Nat × List Ent => Own 3 1 s.1 n s.2.1 (ad.map I64) s.2.2) (fun s => .agg (raL t num (.slice s.1 n s.2.1) un).toArray) (fun s => s.2.2) := by
  refine spec_walk (n := 8) Try.func87 rfl rfl rfl (fun w0 hpre => ?_)
  refine gc_seq ?_
  refine gc_region ?_
  refine gl_cons (gs_box rfl rfl rfl rfl (fun b1 => ?_))
  refine gl_cons (gs_alloc kze33 rfl rfl rfl (fun b2 => ?_))
  refine gl_nil ?_
  refine gk_seq ?_
  refine gc_seq ?_
  refine gc_region ?_
  refine gl_cons (gs_val (val_fieldAddr kfo33_2 rfl) rfl rfl rfl ?_)
  refine gl_cons (gs_val (val_load1 kag22 rfl (sees_mem (by repeat (first | exact .head _ | refine .tail _ ?_ | refine List.mem_append_right _ ?_))) rfl) rfl rfl rfl ?_)
  refine gl_cons (gs_makes (enters kcall86 (.cons rfl .nil)) (cloneI_spec ra n c ad hn hb) rfl rfl rfl (row_of_sees (sees_row hpre)) (fun ⟨ba', c', N'⟩ hs => ?_))
  refine gx_perm List.perm_append_comm ?_
  refine gl_cons (gs_val (val_fieldAddr kfo33_2 rfl) rfl rfl rfl ?_)
  refine gl_cons (gs_store ksz22 rfl rfl rfl rfl rfl rfl (by first | exact .head | exact .tail .head | exact .tail (.tail .head) | exact .tail (.tail (.tail .head)) | exact .tail (.tail (.tail (.tail .head))) | exact .tail (.tail (.tail (.tail (.tail .head))))) (by simp) (by first | ((with_reducible refine splice_all _ _ ?_); simp; done) | (simp only [splice, stL, digL, List.take_succ_cons, List.take_zero, List.drop_succ_cons, List.drop_zero, List.length_cons, List.length_nil, Nat.reduceAdd, Nat.reduceMul, Nat.zero_add, Nat.zero_mul, List.cons_append, List.nil_append]; exact rfl)) ?_)
  refine gl_nil ?_
  refine gk_seq ?_
  refine gc_seq ?_
  refine gc_region ?_
  refine gl_cons (gs_val (val_loadA kag33 rfl (sees_mem (by repeat (first | exact .head _ | refine .tail _ ?_ | refine List.mem_append_right _ ?_))) rfl rfl) rfl rfl rfl ?_)
  refine gl_cons (gs_store ksz33 rfl rfl rfl rfl rfl rfl (by first | exact .head | exact .tail .head | exact .tail (.tail .head) | exact .tail (.tail (.tail .head)) | exact .tail (.tail (.tail (.tail .head))) | exact .tail (.tail (.tail (.tail (.tail .head))))) (by simp) (by first | ((with_reducible refine splice_all _ _ ?_); simp; done) | (simp only [splice, stL, digL, List.take_succ_cons, List.take_zero, List.drop_succ_cons, List.drop_zero, List.length_cons, List.length_nil, Nat.reduceAdd, Nat.reduceMul, Nat.zero_add, Nat.zero_mul, List.cons_append, List.nil_append]; exact rfl)) ?_)
  refine gl_nil ?_
  refine gk_seq ?_
  refine gc_ret ?_
  refine gk_ret rfl (resv_cellA kag33 rfl (sees_mem (by repeat (first | exact .head _ | refine .tail _ ?_ | refine List.mem_append_right _ ?_))) rfl rfl .nil) (.cons _ (.cons _ (List.Sublist.refl _))) ?_
  exact ⟨(ba', c', N'), hs, rfl, rfl⟩

theorem late_yes (p : Nat) (tb : BitVec 64) (num un : Int) (ax px : Value) (h : Int) (hl : un < h) : Pure Try.prog 94 ([.pointer (some ⟨p, 0, none⟩), I64 h]).toArray (fun w => Row w [] (some ⟨p, 0, none⟩) (pdL tb num ax un px)) (.bool true) := by
  have := late_spec p tb num un ax px h
  rwa [decide_eq_true hl] at this

theorem late_no (p : Nat) (tb : BitVec 64) (num un : Int) (ax px : Value) (h : Int) (hl : ¬ un < h) : Pure Try.prog 94 ([.pointer (some ⟨p, 0, none⟩), I64 h]).toArray (fun w => Row w [] (some ⟨p, 0, none⟩) (pdL tb num ax un px)) (.bool false) := by
  have := late_spec p tb num un ax px h
  rwa [decide_eq_false hl] at this

/-- (*baize/topup.Bank).Ask$1 -/
theorem ask1_spec (b4 b5 : Nat) (now : Int) (rt : BitVec 64) (rn ru : Int) (ra : Option Addr) (na rc : Nat) : Pure Try.prog 89 ([.pointer (some ⟨b4, 0, none⟩), .pointer (some ⟨b5, 0, none⟩)]).toArray (fun w => Row w [] (some ⟨b4, 0, none⟩) [I64 now] ∧ Row w [] (some ⟨b5, 0, none⟩) (raL rt rn (.slice ra na rc) ru)) (.bool (decide (heightP now ∧ heightP rn ∧ heightP ru))) := by
  refine spec_walk (n := 15) Try.func89 rfl rfl rfl (fun w0 hpre => ?_)
  refine gc_seq ?_
  refine gc_region ?_
  refine gl_cons (gs_val (val_assign rfl) rfl rfl rfl ?_)
  refine gl_nil ?_
  refine gk_seq ?_
  refine gc_seq ?_
  refine gc_region ?_
  refine gl_cons (gs_val (val_load1 kag3 rfl ((sees_row hpre.1).part 0) rfl) rfl rfl rfl ?_)
  refine gl_cons (gs_pure (enters kcall90 (.cons rfl .nil)) (height_spec now) rfl rfl rfl (fun _ _ => trivial) ?_)
  refine gl_cons (gs_val (val_move rfl) rfl rfl rfl ?_)
  refine gx_split 5 rfl (fun h5 => ?_) (fun h5 => ?_)
  · skip
    refine gl_cons (gs_val (val_fieldAddr kfo33_1 rfl) rfl rfl rfl ?_)
    refine gl_cons (gs_val (val_load1 kag3 rfl ((sees_row hpre.2).part 8) rfl) rfl rfl rfl ?_)
    refine gl_cons (gs_pure (enters kcall90 (.cons rfl .nil)) (height_spec rn) rfl rfl rfl (fun _ _ => trivial) ?_)
    refine gl_cons (gs_val (val_pick_t rfl rfl) rfl rfl rfl ?_)
    refine gl_cons (gs_val (val_move rfl) rfl rfl rfl ?_)
    refine gx_split 10 rfl (fun h10 => ?_) (fun h10 => ?_)
    · skip
      refine gl_cons (gs_val (val_fieldAddr kfo33_3 rfl) rfl rfl rfl ?_)
      refine gl_cons (gs_val (val_load1 kag3 rfl ((sees_row hpre.2).part 10) rfl) rfl rfl rfl ?_)
      refine gl_cons (gs_pure (enters kcall90 (.cons rfl .nil)) (height_spec ru) rfl rfl rfl (fun _ _ => trivial) ?_)
      refine gl_cons (gs_val (val_pick_t rfl rfl) rfl rfl rfl ?_)
      refine gl_cons (gs_val (val_assign rfl) rfl rfl rfl ?_)
      refine gl_nil ?_
      refine gk_seq ?_
      refine gc_ret ?_
      refine gk_ret rfl (resv_tmp rfl .nil) (List.nil_sublist _) ?_
      first | exact ⟨congrArg Value.bool (decide_eq_decide.2 (by omega)), rfl⟩ | exact ⟨congrArg Value.bool (decide_eq_false (by omega)).symm, rfl⟩
    · skip
      refine gl_cons (gs_skip rfl rfl rfl ?_)
      refine gl_cons (gs_skip rfl rfl rfl ?_)
      refine gl_cons (gs_skip rfl rfl rfl ?_)
      refine gl_cons (gs_val (val_pick_f rfl rfl) rfl rfl rfl ?_)
      refine gl_cons (gs_val (val_assign rfl) rfl rfl rfl ?_)
      refine gl_nil ?_
      refine gk_seq ?_
      refine gc_ret ?_
      refine gk_ret rfl (resv_tmp rfl .nil) (List.nil_sublist _) ?_
      first | exact ⟨congrArg Value.bool (decide_eq_decide.2 (by omega)), rfl⟩ | exact ⟨congrArg Value.bool (decide_eq_false (by omega)).symm, rfl⟩
  · skip
    refine gl_cons (gs_skip rfl rfl rfl ?_)
    refine gl_cons (gs_skip rfl rfl rfl ?_)
    refine gl_cons (gs_skip rfl rfl rfl ?_)
    refine gl_cons (gs_val (val_pick_f rfl rfl) rfl rfl rfl ?_)
    refine gl_cons (gs_val (val_move rfl) rfl rfl rfl ?_)
    refine gl_cons (gs_skip rfl rfl rfl ?_)
    refine gl_cons (gs_skip rfl rfl rfl ?_)
    refine gl_cons (gs_skip rfl rfl rfl ?_)
    refine gl_cons (gs_val (val_pick_f rfl rfl) rfl rfl rfl ?_)
    refine gl_cons (gs_val (val_assign rfl) rfl rfl rfl ?_)
    refine gl_nil ?_
    refine gk_seq ?_
    refine gc_ret ?_
    refine gk_ret rfl (resv_tmp rfl .nil) (List.nil_sublist _) ?_
    first | exact ⟨congrArg Value.bool (decide_eq_decide.2 (by omega)), rfl⟩ | exact ⟨congrArg Value.bool (decide_eq_false (by omega)).symm, rfl⟩

/-- (*baize/topup.Bank).Ask$2 -/
theorem ask2_spec (b5 b3 : Nat) (rt : BitVec 64) (rn ru : Int) (ra : Option Addr) (na rc : Nat) (b : Nat) (sa : Option Addr) (n sc : Nat) (nm : Int) (opv : Value) : Pure Try.prog 91 ([.pointer (some ⟨b5, 0, none⟩), .pointer (some ⟨b3, 0, none⟩)]).toArray (fun w => Row w [] (some ⟨b5, 0, none⟩) (raL rt rn (.slice ra na rc) ru) ∧ Row w [] (some ⟨b3, 0, none⟩) [.pointer (some ⟨b, 0, none⟩)] ∧ Row w [] (some ⟨b, 0, none⟩) (bkL (.slice sa n sc) nm (opv))) (.bool (decide (na = n))) := by
  refine spec_walk (n := 12) Try.func91 rfl rfl rfl (fun w0 hpre => ?_)
  refine gc_seq ?_
  refine gc_region ?_
  refine gl_cons (gs_val (val_assign rfl) rfl rfl rfl ?_)
  refine gl_nil ?_
  refine gk_seq ?_
  refine gc_seq ?_
  refine gc_drawAll kmixed (by kernel_rfl) ?_
  refine gq_val (val_fieldAddr kfo33_2 rfl) rfl rfl rfl ?_
  refine gq_val (val_load1 kag22 rfl ((sees_row hpre.1).part 9) rfl) rfl rfl rfl ?_
  refine gq_val (val_lenSli ksl22 rfl) rfl rfl rfl ?_
  refine gq_val (val_load1 kag24 rfl ((sees_row hpre.2.1).part 0) rfl) rfl rfl rfl ?_
  refine gq_val (val_nilCheck rfl) rfl rfl rfl ?_
  refine gq_val (val_fieldAddr kfo154_0 rfl) rfl rfl rfl ?_
  refine gq_val (val_load1 kag22 rfl ((sees_row hpre.2.2).part 0) rfl) rfl rfl rfl ?_
  refine gq_val (val_lenSli ksl22 rfl) rfl rfl rfl ?_
  refine gq_val (val_eql rfl rfl) rfl rfl rfl ?_
  refine gq_val (val_assign rfl) rfl rfl rfl ?_
  refine gq_nil ?_
  refine gl_nil ?_
  refine gk_seq ?_
  refine gc_ret ?_
  refine gk_ret rfl (resv_tmp rfl .nil) (List.nil_sublist _) ?_
  exact ⟨congrArg Value.bool (decide_eq_decide.2 (by omega)), rfl⟩

/-- (*baize/topup.Bank).Ask$3 -/
theorem ask3_spec (b5 : Nat) (rt : BitVec 64) (rn ru : Int) (ra : Option Addr) (na rc : Nat) (rad : List Int) (hra : rad.length = na) (hb : na ≤ 140737488351232) : Pure Try.prog 92 ([.pointer (some ⟨b5, 0, none⟩)]).toArray (fun w => Row w [] (some ⟨b5, 0, none⟩) (raL rt rn (.slice ra na rc) ru) ∧ Row w [] ra (rad.map I64)) (.bool (decide (∀ x ∈ rad, rightP x))) := by
  refine spec_walk (n := 5) Try.func92 rfl rfl rfl (fun w0 hpre => ?_)
  refine gc_seq ?_
  refine gc_region ?_
  refine gl_cons (gs_val (val_assign rfl) rfl rfl rfl ?_)
  refine gl_nil ?_
  refine gk_seq ?_
  refine gc_seq ?_
  refine gc_region ?_
  refine gl_cons (gs_val (val_fieldAddr kfo33_2 rfl) rfl rfl rfl ?_)
  refine gl_cons (gs_val (val_load1 kag22 rfl ((sees_row hpre.1).part 9) rfl) rfl rfl rfl ?_)
  refine gl_cons (gs_pure (enters kcall82 (.cons rfl .nil)) (amounts_spec ra na rc rad hra hb) rfl rfl rfl (row_of_sees (sees_row hpre.2)) ?_)
  refine gl_cons (gs_val (val_assign rfl) rfl rfl rfl ?_)
  refine gl_nil ?_
  refine gk_seq ?_
  refine gc_ret ?_
  refine gk_ret rfl (resv_tmp rfl .nil) (List.nil_sublist _) ?_
  exact ⟨rfl, rfl⟩

/-- (*baize/topup.Bank).Ask$4 -/
theorem ask4_none (b3 b4 : Nat) (now : Int) (b : Nat) (sa : Option Addr) (n sc : Nat) (nm : Int) : Pure Try.prog 93 ([.pointer (some ⟨b3, 0, none⟩), .pointer (some ⟨b4, 0, none⟩)]).toArray (fun w => Row w [] (some ⟨b3, 0, none⟩) [.pointer (some ⟨b, 0, none⟩)] ∧ Row w [] (some ⟨b4, 0, none⟩) [I64 now] ∧ Row w [] (some ⟨b, 0, none⟩) (bkL (.slice sa n sc) nm (.pointer none))) (.bool true) := by
  refine spec_walk (n := 25) Try.func93 rfl rfl rfl (fun w0 hpre => ?_)
  refine gc_seq ?_
  refine gc_region ?_
  refine gl_cons (gs_val (val_assign rfl) rfl rfl rfl ?_)
  refine gl_nil ?_
  refine gk_seq ?_
  refine gc_seq ?_
  refine gc_draw (m := 17) kmixed (by kernel_rfl) ?_
  refine gq_val (val_load1 kag24 rfl ((sees_row hpre.1).part 0) rfl) rfl rfl rfl ?_
  refine gq_val (val_nilCheck rfl) rfl rfl rfl ?_
  refine gq_val (val_fieldAddr kfo154_2 rfl) rfl rfl rfl ?_
  refine gq_val (val_load1 kag152 rfl ((sees_row hpre.2.2).part 2) rfl) rfl rfl rfl ?_
  refine gq_val (val_eqlNil kun152 rfl rfl) rfl rfl rfl ?_
  refine gq_val (val_move rfl) rfl rfl rfl ?_
  refine gq_skip rfl rfl rfl ?_
  refine gq_skip rfl rfl rfl ?_
  refine gq_skip rfl rfl rfl ?_
  refine gq_skip rfl rfl rfl ?_
  refine gq_skip rfl rfl rfl ?_
  refine gq_skip rfl rfl rfl ?_
  refine gq_skip rfl rfl rfl ?_
  refine gq_skip rfl rfl rfl ?_
  refine gq_skip rfl rfl rfl ?_
  refine gq_skip rfl rfl rfl ?_
  refine gq_skip rfl rfl rfl ?_
  refine gq_nil ?_
  refine gl_cons (gs_skip rfl rfl rfl ?_)
  refine gl_cons (gs_skip rfl rfl rfl ?_)
  refine gl_cons (gs_skip rfl rfl rfl ?_)
  refine gl_cons (gs_skip rfl rfl rfl ?_)
  refine gl_cons (gs_val (val_pick_t rfl rfl) rfl rfl rfl ?_)
  refine gl_cons (gs_val (val_assign rfl) rfl rfl rfl ?_)
  refine gl_nil ?_
  refine gk_seq ?_
  refine gc_ret ?_
  refine gk_ret rfl (resv_tmp rfl .nil) (List.nil_sublist _) ?_
  exact ⟨rfl, rfl⟩

/-- (*baize/topup.Bank).Ask$4 -/
theorem ask4_late (b3 b4 : Nat) (now : Int) (b : Nat) (sa : Option Addr) (n sc : Nat) (nm : Int) (p : Nat) (tb : BitVec 64) (num un : Int) (aa pa : Option Addr) (an ac pn pc : Nat) (ad : List Int) (pu : List Bool) (haa : ad.length = an) (hpp : pu.length = pn) (hap : an = pn) (hb : an ≤ 100) (hr : ∀ x ∈ ad, rightP x) (hl : un < now) : Pure Try.prog 93 ([.pointer (some ⟨b3, 0, none⟩), .pointer (some ⟨b4, 0, none⟩)]).toArray (fun w => Row w [] (some ⟨b3, 0, none⟩) [.pointer (some ⟨b, 0, none⟩)] ∧ Row w [] (some ⟨b4, 0, none⟩) [I64 now] ∧ Row w [] (some ⟨b, 0, none⟩) (bkL (.slice sa n sc) nm (.pointer (some ⟨p, 0, none⟩))) ∧ Row w [] (some ⟨p, 0, none⟩) (pdL tb num (.slice aa an ac) un (.slice pa pn pc)) ∧ Row w [] aa (ad.map I64) ∧ Row w [] pa (pu.map Value.bool)) (.bool (decide ((laidL ad pu).sum = 0))) := by
  refine spec_walk (n := 25) Try.func93 rfl rfl rfl (fun w0 hpre => ?_)
  refine gc_seq ?_
  refine gc_region ?_
  refine gl_cons (gs_val (val_assign rfl) rfl rfl rfl ?_)
  refine gl_nil ?_
  refine gk_seq ?_
  refine gc_seq ?_
  refine gc_draw (m := 17) kmixed (by kernel_rfl) ?_
  refine gq_val (val_load1 kag24 rfl ((sees_row hpre.1).part 0) rfl) rfl rfl rfl ?_
  refine gq_val (val_nilCheck rfl) rfl rfl rfl ?_
  refine gq_val (val_fieldAddr kfo154_2 rfl) rfl rfl rfl ?_
  refine gq_val (val_load1 kag152 rfl ((sees_row hpre.2.2.1).part 2) rfl) rfl rfl rfl ?_
  refine gq_val (val_eqlNil kun152 rfl rfl) rfl rfl rfl ?_
  refine gq_val (val_move rfl) rfl rfl rfl ?_
  refine gq_val (val_load1 kag24 rfl ((sees_row hpre.1).part 0) rfl) rfl rfl rfl ?_
  refine gq_val (val_nilCheck rfl) rfl rfl rfl ?_
  refine gq_val (val_fieldAddr kfo154_2 rfl) rfl rfl rfl ?_
  refine gq_val (val_load1 kag152 rfl ((sees_row hpre.2.2.1).part 2) rfl) rfl rfl rfl ?_
  refine gq_val (val_load1 kag3 rfl ((sees_row hpre.2.1).part 0) rfl) rfl rfl rfl ?_
  refine gq_pure (enters kcall94 (.cons rfl (.cons rfl .nil))) (late_yes p tb num un (.slice aa an ac) (.slice pa pn pc) now hl) rfl rfl rfl (row_of_sees (sees_row hpre.2.2.2.1)) ?_
  refine gq_val (val_move rfl) rfl rfl rfl ?_
  refine gq_val (val_load1 kag24 rfl ((sees_row hpre.1).part 0) rfl) rfl rfl rfl ?_
  refine gq_val (val_nilCheck rfl) rfl rfl rfl ?_
  refine gq_val (val_fieldAddr kfo154_2 rfl) rfl rfl rfl ?_
  refine gq_val (val_load1 kag152 rfl ((sees_row hpre.2.2.1).part 2) rfl) rfl rfl rfl ?_
  refine gq_nil ?_
  refine gl_cons (gs_makes (enters kcall88 (.cons rfl .nil)) (laid_spec p tb num un aa pa an ac pn pc ad pu haa hpp hap hb) rfl rfl rfl (fun w hi => ⟨(row_of_sees (sees_row hpre.2.2.2.1)) w hi, (row_of_sees (sees_row hpre.2.2.2.2.1)) w hi, (row_of_sees (sees_row hpre.2.2.2.2.2)) w hi⟩) (fun lb _ => ?_))
  refine gl_cons (gs_pure (enters kcall85 (.cons rfl .nil)) (sum_spec (some ⟨lb, 0, none⟩) an an (laidL ad pu) (by rw [laid_len (by omega), haa]) hb (laid_right hr)) rfl rfl rfl (row_of_sees (sees_all (by repeat (first | exact .head _ | refine .tail _ ?_ | refine List.mem_append_right _ ?_)))) ?_)
  refine gl_cons (gs_val (val_eql rfl rfl) rfl rfl rfl ?_)
  refine gl_cons (gs_val (val_pick_t rfl rfl) rfl rfl rfl ?_)
  refine gl_cons (gs_val (val_pick_f rfl rfl) rfl rfl rfl ?_)
  refine gl_cons (gs_val (val_assign rfl) rfl rfl rfl ?_)
  refine gl_nil ?_
  refine gk_seq ?_
  refine gc_ret ?_
  refine gk_ret rfl (resv_tmp rfl .nil) (List.nil_sublist _) ?_
  exact ⟨rfl, rfl⟩

/-- (*baize/topup.Bank).Ask$4 -/
theorem ask4_soon (b3 b4 : Nat) (now : Int) (b : Nat) (sa : Option Addr) (n sc : Nat) (nm : Int) (p : Nat) (tb : BitVec 64) (num un : Int) (aa pa : Option Addr) (an ac pn pc : Nat) (ad : List Int) (pu : List Bool) (haa : ad.length = an) (hpp : pu.length = pn) (hap : an = pn) (hb : an ≤ 100) (hr : ∀ x ∈ ad, rightP x) (hl : ¬ un < now) : Pure Try.prog 93 ([.pointer (some ⟨b3, 0, none⟩), .pointer (some ⟨b4, 0, none⟩)]).toArray (fun w => Row w [] (some ⟨b3, 0, none⟩) [.pointer (some ⟨b, 0, none⟩)] ∧ Row w [] (some ⟨b4, 0, none⟩) [I64 now] ∧ Row w [] (some ⟨b, 0, none⟩) (bkL (.slice sa n sc) nm (.pointer (some ⟨p, 0, none⟩))) ∧ Row w [] (some ⟨p, 0, none⟩) (pdL tb num (.slice aa an ac) un (.slice pa pn pc)) ∧ Row w [] aa (ad.map I64) ∧ Row w [] pa (pu.map Value.bool)) (.bool false) := by
  refine spec_walk (n := 25) Try.func93 rfl rfl rfl (fun w0 hpre => ?_)
  refine gc_seq ?_
  refine gc_region ?_
  refine gl_cons (gs_val (val_assign rfl) rfl rfl rfl ?_)
  refine gl_nil ?_
  refine gk_seq ?_
  refine gc_seq ?_
  refine gc_draw (m := 17) kmixed (by kernel_rfl) ?_
  refine gq_val (val_load1 kag24 rfl ((sees_row hpre.1).part 0) rfl) rfl rfl rfl ?_
  refine gq_val (val_nilCheck rfl) rfl rfl rfl ?_
  refine gq_val (val_fieldAddr kfo154_2 rfl) rfl rfl rfl ?_
  refine gq_val (val_load1 kag152 rfl ((sees_row hpre.2.2.1).part 2) rfl) rfl rfl rfl ?_
  refine gq_val (val_eqlNil kun152 rfl rfl) rfl rfl rfl ?_
  refine gq_val (val_move rfl) rfl rfl rfl ?_
  refine gq_val (val_load1 kag24 rfl ((sees_row hpre.1).part 0) rfl) rfl rfl rfl ?_
  refine gq_val (val_nilCheck rfl) rfl rfl rfl ?_
  refine gq_val (val_fieldAddr kfo154_2 rfl) rfl rfl rfl ?_
  refine gq_val (val_load1 kag152 rfl ((sees_row hpre.2.2.1).part 2) rfl) rfl rfl rfl ?_
  refine gq_val (val_load1 kag3 rfl ((sees_row hpre.2.1).part 0) rfl) rfl rfl rfl ?_
  refine gq_pure (enters kcall94 (.cons rfl (.cons rfl .nil))) (late_no p tb num un (.slice aa an ac) (.slice pa pn pc) now hl) rfl rfl rfl (row_of_sees (sees_row hpre.2.2.2.1)) ?_
  refine gq_val (val_move rfl) rfl rfl rfl ?_
  refine gq_skip rfl rfl rfl ?_
  refine gq_skip rfl rfl rfl ?_
  refine gq_skip rfl rfl rfl ?_
  refine gq_skip rfl rfl rfl ?_
  refine gq_nil ?_
  refine gl_cons (gs_skip rfl rfl rfl ?_)
  refine gl_cons (gs_skip rfl rfl rfl ?_)
  refine gl_cons (gs_skip rfl rfl rfl ?_)
  refine gl_cons (gs_val (val_pick_f rfl rfl) rfl rfl rfl ?_)
  refine gl_cons (gs_val (val_pick_f rfl rfl) rfl rfl rfl ?_)
  refine gl_cons (gs_val (val_assign rfl) rfl rfl rfl ?_)
  refine gl_nil ?_
  refine gk_seq ?_
  refine gc_ret ?_
  refine gk_ret rfl (resv_tmp rfl .nil) (List.nil_sublist _) ?_
  exact ⟨rfl, rfl⟩

theorem ask4_some (b3 b4 : Nat) (now : Int) (b : Nat) (sa : Option Addr) (n sc : Nat) (nm : Int) (p : Nat) (tb : BitVec 64) (num un : Int) (aa pa : Option Addr) (an ac pn pc : Nat) (ad : List Int) (pu : List Bool) (haa : ad.length = an) (hpp : pu.length = pn) (hap : an = pn) (hb : an ≤ 100) (hr : ∀ x ∈ ad, rightP x) : Pure Try.prog 93 ([.pointer (some ⟨b3, 0, none⟩), .pointer (some ⟨b4, 0, none⟩)]).toArray (fun w => Row w [] (some ⟨b3, 0, none⟩) [.pointer (some ⟨b, 0, none⟩)] ∧ Row w [] (some ⟨b4, 0, none⟩) [I64 now] ∧ Row w [] (some ⟨b, 0, none⟩) (bkL (.slice sa n sc) nm (.pointer (some ⟨p, 0, none⟩))) ∧ Row w [] (some ⟨p, 0, none⟩) (pdL tb num (.slice aa an ac) un (.slice pa pn pc)) ∧ Row w [] aa (ad.map I64) ∧ Row w [] pa (pu.map Value.bool)) (.bool (decide (un < now ∧ (laidL ad pu).sum = 0))) := by
  by_cases hl : un < now
  · have := ask4_late b3 b4 now b sa n sc nm p tb num un aa pa an ac pn pc ad pu haa hpp hap hb hr hl
    rwa [show decide ((laidL ad pu).sum = 0) = decide (un < now ∧ (laidL ad pu).sum = 0) from decide_eq_decide.2 ⟨fun h => ⟨hl, h⟩, fun h => h.2⟩] at this
  · have := ask4_soon b3 b4 now b sa n sc nm p tb num un aa pa an ac pn pc ad pu haa hpp hap hb hr hl
    rwa [show false = decide (un < now ∧ (laidL ad pu).sum = 0) from (decide_eq_false (fun h => hl h.1)).symm] at this

/-- (*baize/topup.Bank).Ask$5 -/
theorem ask5_spec (b5 b3 : Nat) (rt : BitVec 64) (rn ru : Int) (ra : Option Addr) (na rc : Nat) (b : Nat) (sa : Option Addr) (n sc : Nat) (nm : Int) (opv : Value) : Pure Try.prog 95 ([.pointer (some ⟨b5, 0, none⟩), .pointer (some ⟨b3, 0, none⟩)]).toArray (fun w => Row w [] (some ⟨b5, 0, none⟩) (raL rt rn (.slice ra na rc) ru) ∧ Row w [] (some ⟨b3, 0, none⟩) [.pointer (some ⟨b, 0, none⟩)] ∧ Row w [] (some ⟨b, 0, none⟩) (bkL (.slice sa n sc) nm (opv))) (.bool (decide (nm < rn))) := by
  refine spec_walk (n := 10) Try.func95 rfl rfl rfl (fun w0 hpre => ?_)
  refine gc_seq ?_
  refine gc_region ?_
  refine gl_cons (gs_val (val_assign rfl) rfl rfl rfl ?_)
  refine gl_nil ?_
  refine gk_seq ?_
  refine gc_seq ?_
  refine gc_drawAll kmixed (by kernel_rfl) ?_
  refine gq_val (val_fieldAddr kfo33_1 rfl) rfl rfl rfl ?_
  refine gq_val (val_load1 kag3 rfl ((sees_row hpre.1).part 8) rfl) rfl rfl rfl ?_
  refine gq_val (val_load1 kag24 rfl ((sees_row hpre.2.1).part 0) rfl) rfl rfl rfl ?_
  refine gq_val (val_nilCheck rfl) rfl rfl rfl ?_
  refine gq_val (val_fieldAddr kfo154_1 rfl) rfl rfl rfl ?_
  refine gq_val (val_load1 kag3 rfl ((sees_row hpre.2.2).part 1) rfl) rfl rfl rfl ?_
  refine gq_val (val_gtr rfl rfl) rfl rfl rfl ?_
  refine gq_val (val_assign rfl) rfl rfl rfl ?_
  refine gq_nil ?_
  refine gl_nil ?_
  refine gk_seq ?_
  refine gc_ret ?_
  refine gk_ret rfl (resv_tmp rfl .nil) (List.nil_sublist _) ?_
  exact ⟨congrArg Value.bool (decide_eq_decide.2 (by omega)), rfl⟩

/-- (*baize/topup.Bank).Ask$6 -/
theorem ask6_spec (b5 b4 : Nat) (now : Int) (rt : BitVec 64) (rn ru : Int) (ra : Option Addr) (na rc : Nat) : Pure Try.prog 96 ([.pointer (some ⟨b5, 0, none⟩), .pointer (some ⟨b4, 0, none⟩)]).toArray (fun w => Row w [] (some ⟨b5, 0, none⟩) (raL rt rn (.slice ra na rc) ru) ∧ Row w [] (some ⟨b4, 0, none⟩) [I64 now]) (.bool (decide (now ≤ ru))) := by
  refine spec_walk (n := 7) Try.func96 rfl rfl rfl (fun w0 hpre => ?_)
  refine gc_seq ?_
  refine gc_region ?_
  refine gl_cons (gs_val (val_assign rfl) rfl rfl rfl ?_)
  refine gl_nil ?_
  refine gk_seq ?_
  refine gc_seq ?_
  refine gc_region ?_
  refine gl_cons (gs_val (val_fieldAddr kfo33_3 rfl) rfl rfl rfl ?_)
  refine gl_cons (gs_val (val_load1 kag3 rfl ((sees_row hpre.1).part 10) rfl) rfl rfl rfl ?_)
  refine gl_cons (gs_val (val_load1 kag3 rfl ((sees_row hpre.2).part 0) rfl) rfl rfl rfl ?_)
  refine gl_cons (gs_val (val_geq rfl rfl) rfl rfl rfl ?_)
  refine gl_cons (gs_val (val_assign rfl) rfl rfl rfl ?_)
  refine gl_nil ?_
  refine gk_seq ?_
  refine gc_ret ?_
  refine gk_ret rfl (resv_tmp rfl .nil) (List.nil_sublist _) ?_
  exact ⟨congrArg Value.bool (decide_eq_decide.2 (by omega)), rfl⟩

/-- (*baize/topup.Bank).Ask$7 -/
theorem ask7_spec (b5 : Nat) (rt : BitVec 64) (rn ru : Int) (ra : Option Addr) (na rc : Nat) (rad : List Int) (hra : rad.length = na) (hb : na ≤ 100) (hr : ∀ x ∈ rad, rightP x) : Pure Try.prog 97 ([.pointer (some ⟨b5, 0, none⟩)]).toArray (fun w => Row w [] (some ⟨b5, 0, none⟩) (raL rt rn (.slice ra na rc) ru) ∧ Row w [] ra (rad.map I64)) (.bool (decide (0 < rad.sum))) := by
  refine spec_walk (n := 6) Try.func97 rfl rfl rfl (fun w0 hpre => ?_)
  refine gc_seq ?_
  refine gc_region ?_
  refine gl_cons (gs_val (val_assign rfl) rfl rfl rfl ?_)
  refine gl_nil ?_
  refine gk_seq ?_
  refine gc_seq ?_
  refine gc_region ?_
  refine gl_cons (gs_val (val_fieldAddr kfo33_2 rfl) rfl rfl rfl ?_)
  refine gl_cons (gs_val (val_load1 kag22 rfl ((sees_row hpre.1).part 9) rfl) rfl rfl rfl ?_)
  refine gl_cons (gs_pure (enters kcall85 (.cons rfl .nil)) (sum_spec ra na rc rad hra hb hr) rfl rfl rfl (row_of_sees (sees_row hpre.2)) ?_)
  refine gl_cons (gs_val (val_gtr rfl rfl) rfl rfl rfl ?_)
  refine gl_cons (gs_val (val_assign rfl) rfl rfl rfl ?_)
  refine gl_nil ?_
  refine gk_seq ?_
  refine gc_ret ?_
  refine gk_ret rfl (resv_tmp rfl .nil) (List.nil_sublist _) ?_
  exact ⟨congrArg Value.bool (decide_eq_decide.2 (by omega)), rfl⟩

/-- (*baize/topup.Bank).Ask$8 -/
theorem ask8_spec (b3 b5 : Nat) (rt : BitVec 64) (rn ru : Int) (ra : Option Addr) (na rc : Nat) (rad : List Int) (hra : rad.length = na) (b : Nat) (sa : Option Addr) (n sc : Nat) (nm : Int) (opv : Value) (st : List Int) (hst : st.length = n) (hb : na ≤ 100) (hr : ∀ x ∈ rad, rightP x) (hbs : n ≤ 100) (hrs : ∀ x ∈ st, rightP x) : Pure Try.prog 98 ([.pointer (some ⟨b3, 0, none⟩), .pointer (some ⟨b5, 0, none⟩)]).toArray (fun w => Row w [] (some ⟨b3, 0, none⟩) [.pointer (some ⟨b, 0, none⟩)] ∧ Row w [] (some ⟨b5, 0, none⟩) (raL rt rn (.slice ra na rc) ru) ∧ Row w [] (some ⟨b, 0, none⟩) (bkL (.slice sa n sc) nm (opv)) ∧ Row w [] sa (st.map I64) ∧ Row w [] ra (rad.map I64)) (.bool (decide (rightP (st.sum + rad.sum)))) := by
  have q1 := sumT_bound hrs n
  have q2 := sumT_bound hr na
  rw [← hst, sumT_all] at q1
  rw [← hra, sumT_all] at q2
  refine spec_walk (n := 10) Try.func98 rfl rfl rfl (fun w0 hpre => ?_)
  refine gc_seq ?_
  refine gc_region ?_
  refine gl_cons (gs_val (val_assign rfl) rfl rfl rfl ?_)
  refine gl_nil ?_
  refine gk_seq ?_
  refine gc_seq ?_
  refine gc_drawAll kmixed (by kernel_rfl) ?_
  refine gq_val (val_load1 kag24 rfl ((sees_row hpre.1).part 0) rfl) rfl rfl rfl ?_
  refine gq_pure (enters kcall29 (.cons rfl .nil)) (pot_spec b sa n sc nm opv st hst hbs hrs) rfl rfl rfl (fun w hi => ⟨(row_of_sees (sees_row hpre.2.2.1)) w hi, (row_of_sees (sees_row hpre.2.2.2.1)) w hi⟩) ?_
  refine gq_val (val_fieldAddr kfo33_2 rfl) rfl rfl rfl ?_
  refine gq_val (val_load1 kag22 rfl ((sees_row hpre.2.1).part 9) rfl) rfl rfl rfl ?_
  refine gq_pure (enters kcall85 (.cons rfl .nil)) (sum_spec ra na rc rad hra hb hr) rfl rfl rfl (row_of_sees (sees_row hpre.2.2.2.2)) ?_
  refine gq_val (val_addI rfl rfl (by omega)) rfl rfl rfl ?_
  refine gq_pure (enters kcall84 (.cons rfl .nil)) (right_spec (st.sum + rad.sum)) rfl rfl rfl (fun _ _ => trivial) ?_
  refine gq_val (val_assign rfl) rfl rfl rfl ?_
  refine gq_nil ?_
  refine gl_nil ?_
  refine gk_seq ?_
  refine gc_ret ?_
  refine gk_ret rfl (resv_tmp rfl .nil) (List.nil_sublist _) ?_
  exact ⟨rfl, rfl⟩

end Go.Proofs.Ytddckbhlfeegoaa
