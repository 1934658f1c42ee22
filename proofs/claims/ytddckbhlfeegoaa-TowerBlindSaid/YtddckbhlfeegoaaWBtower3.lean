/- The walk of functions of the program: what each computes, for every input. -/
import Derived.Test.YtddckbhlfeegoaaWBFacts
import Derived.Test.YtddckbhlfeegoaaWBtower2
namespace Go.Proofs.Ytddckbhlfeegoaa
open Go Go.Eng
set_option linter.unusedVariables false
set_option linter.unusedSimpArgs false

/-- (*baize/tower.Tower).Take -/
theorem take_nil (h : BitVec 64) (nb : Int) (ba : Option Addr) (n cap : Nat) : Pure Try.prog 41 ([.pointer none, apV h nb (.slice ba n cap)]).toArray (fun _ => True) (I64 1) := by
  refine spec_walk (n := 93) Try.func41 rfl rfl rfl (fun w0 hpre => ?_)
  refine gc_seq ?_
  refine gc_region ?_
  refine gl_cons (gs_box rfl rfl rfl rfl (fun b3 => ?_))
  refine gl_cons (gs_val (val_assign rfl) rfl rfl rfl ?_)
  refine gl_nil ?_
  refine gk_seq ?_
  refine gc_seq ?_
  refine gc_block ?_
  refine gc_seq ?_
  refine gc_region ?_
  refine gl_cons (gs_val (val_move rfl) rfl rfl rfl ?_)
  refine gl_cons (gs_val (val_eqlNil kun66 rfl rfl) rfl rfl rfl ?_)
  refine gl_cons (gs_val (val_assign rfl) rfl rfl rfl ?_)
  refine gl_nil ?_
  refine gk_seq ?_
  refine gc_true rfl ?_
  refine gc_seq ?_
  refine gc_region ?_
  refine gl_cons (gs_val (val_assign rfl) rfl rfl rfl ?_)
  refine gl_nil ?_
  refine gk_seq ?_
  refine gc_ret ?_
  refine gk_block_ret ?_
  refine gk_seq_ret ?_
  refine gk_ret rfl (resv_tmp rfl .nil) (List.nil_sublist _) ?_
  exact ⟨rfl, rfl⟩

/-- (*baize/tower.Tower).Take -/
theorem take_num (bt : Nat) (h : BitVec 64) (nb : Int) (ba : Option Addr) (n cap : Nat) (hk : ¬ (0 ≤ nb ∧ nb ≤ 1099511627776)) : Pure Try.prog 41 ([.pointer (some ⟨bt, 0, none⟩), apV h nb (.slice ba n cap)]).toArray (fun _ => True) (I64 2) := by
  refine spec_walk (n := 93) Try.func41 rfl rfl rfl (fun w0 hpre => ?_)
  refine gc_seq ?_
  refine gc_region ?_
  refine gl_cons (gs_box rfl rfl rfl rfl (fun b3 => ?_))
  refine gl_cons (gs_val (val_assign rfl) rfl rfl rfl ?_)
  refine gl_nil ?_
  refine gk_seq ?_
  refine gc_seq ?_
  refine gc_block ?_
  refine gc_seq ?_
  refine gc_region ?_
  refine gl_cons (gs_val (val_move rfl) rfl rfl rfl ?_)
  refine gl_cons (gs_val (val_eqlNil kun66 rfl rfl) rfl rfl rfl ?_)
  refine gl_cons (gs_val (val_assign rfl) rfl rfl rfl ?_)
  refine gl_nil ?_
  refine gk_seq ?_
  refine gc_false rfl ?_
  refine gc_seq ?_
  refine gc_region ?_
  refine gl_cons (gs_val (val_fieldAddr kfo70_1 rfl) rfl rfl rfl ?_)
  refine gl_cons (gs_val (val_load1 kag3 rfl (sees_mem (by repeat (first | exact .head _ | refine .tail _ ?_ | refine List.mem_append_right _ ?_))) rfl) rfl rfl rfl ?_)
  refine gl_cons (gs_pure (enters kcall119 (.cons rfl .nil)) (number_no nb hk) rfl rfl rfl (fun _ _ => trivial) ?_)
  refine gl_cons (gs_val (val_not rfl) rfl rfl rfl ?_)
  refine gl_cons (gs_val (val_assign rfl) rfl rfl rfl ?_)
  refine gl_nil ?_
  refine gk_seq ?_
  refine gc_true rfl ?_
  refine gc_seq ?_
  refine gc_region ?_
  refine gl_cons (gs_val (val_assign rfl) rfl rfl rfl ?_)
  refine gl_nil ?_
  refine gk_seq ?_
  refine gc_ret ?_
  refine gk_block_ret ?_
  refine gk_seq_ret ?_
  refine gk_ret rfl (resv_tmp rfl .nil) (List.nil_sublist _) ?_
  exact ⟨rfl, rfl⟩

/-- (*baize/tower.Tower).Take -/
theorem take_short (bt : Nat) (h : BitVec 64) (nb : Int) (ba : Option Addr) (n cap : Nat) (h0 : 0 ≤ nb) (h1 : nb ≤ 1099511627776) (h8 : n < 8) : Pure Try.prog 41 ([.pointer (some ⟨bt, 0, none⟩), apV h nb (.slice ba n cap)]).toArray (fun _ => True) (I64 3) := by
  refine spec_walk (n := 93) Try.func41 rfl rfl rfl (fun w0 hpre => ?_)
  refine gc_seq ?_
  refine gc_region ?_
  refine gl_cons (gs_box rfl rfl rfl rfl (fun b3 => ?_))
  refine gl_cons (gs_val (val_assign rfl) rfl rfl rfl ?_)
  refine gl_nil ?_
  refine gk_seq ?_
  refine gc_seq ?_
  refine gc_block ?_
  refine gc_seq ?_
  refine gc_region ?_
  refine gl_cons (gs_val (val_move rfl) rfl rfl rfl ?_)
  refine gl_cons (gs_val (val_eqlNil kun66 rfl rfl) rfl rfl rfl ?_)
  refine gl_cons (gs_val (val_assign rfl) rfl rfl rfl ?_)
  refine gl_nil ?_
  refine gk_seq ?_
  refine gc_false rfl ?_
  refine gc_seq ?_
  refine gc_region ?_
  refine gl_cons (gs_val (val_fieldAddr kfo70_1 rfl) rfl rfl rfl ?_)
  refine gl_cons (gs_val (val_load1 kag3 rfl (sees_mem (by repeat (first | exact .head _ | refine .tail _ ?_ | refine List.mem_append_right _ ?_))) rfl) rfl rfl rfl ?_)
  refine gl_cons (gs_pure (enters kcall119 (.cons rfl .nil)) (number_yes nb ⟨h0, h1⟩) rfl rfl rfl (fun _ _ => trivial) ?_)
  refine gl_cons (gs_val (val_not rfl) rfl rfl rfl ?_)
  refine gl_cons (gs_val (val_assign rfl) rfl rfl rfl ?_)
  refine gl_nil ?_
  refine gk_seq ?_
  refine gc_false rfl ?_
  refine gc_seq ?_
  refine gc_region ?_
  refine gl_cons (gs_val (val_fieldAddr kfo70_2 rfl) rfl rfl rfl ?_)
  refine gl_cons (gs_val (val_load1 kag54 rfl (sees_mem (by repeat (first | exact .head _ | refine .tail _ ?_ | refine List.mem_append_right _ ?_))) rfl) rfl rfl rfl ?_)
  refine gl_cons (gs_val (val_lenSli ksl54 rfl) rfl rfl rfl ?_)
  refine gl_cons (gs_val (val_yes (val_lss rfl rfl) (by omega)) rfl rfl rfl ?_)
  refine gl_cons (gs_val (val_assign rfl) rfl rfl rfl ?_)
  refine gl_nil ?_
  refine gk_seq ?_
  refine gc_true rfl ?_
  refine gc_seq ?_
  refine gc_region ?_
  refine gl_cons (gs_val (val_assign rfl) rfl rfl rfl ?_)
  refine gl_nil ?_
  refine gk_seq ?_
  refine gc_ret ?_
  refine gk_block_ret ?_
  refine gk_seq_ret ?_
  refine gk_ret rfl (resv_tmp rfl .nil) (List.nil_sublist _) ?_
  exact ⟨rfl, rfl⟩

/-- (*baize/tower.Tower).Take -/
theorem take_long (bt : Nat) (h : BitVec 64) (nb : Int) (ba : Option Addr) (n cap : Nat) (h0 : 0 ≤ nb) (h1 : nb ≤ 1099511627776) (h8 : 32776 < n) : Pure Try.prog 41 ([.pointer (some ⟨bt, 0, none⟩), apV h nb (.slice ba n cap)]).toArray (fun _ => True) (I64 5) := by
  refine spec_walk (n := 93) Try.func41 rfl rfl rfl (fun w0 hpre => ?_)
  refine gc_seq ?_
  refine gc_region ?_
  refine gl_cons (gs_box rfl rfl rfl rfl (fun b3 => ?_))
  refine gl_cons (gs_val (val_assign rfl) rfl rfl rfl ?_)
  refine gl_nil ?_
  refine gk_seq ?_
  refine gc_seq ?_
  refine gc_block ?_
  refine gc_seq ?_
  refine gc_region ?_
  refine gl_cons (gs_val (val_move rfl) rfl rfl rfl ?_)
  refine gl_cons (gs_val (val_eqlNil kun66 rfl rfl) rfl rfl rfl ?_)
  refine gl_cons (gs_val (val_assign rfl) rfl rfl rfl ?_)
  refine gl_nil ?_
  refine gk_seq ?_
  refine gc_false rfl ?_
  refine gc_seq ?_
  refine gc_region ?_
  refine gl_cons (gs_val (val_fieldAddr kfo70_1 rfl) rfl rfl rfl ?_)
  refine gl_cons (gs_val (val_load1 kag3 rfl (sees_mem (by repeat (first | exact .head _ | refine .tail _ ?_ | refine List.mem_append_right _ ?_))) rfl) rfl rfl rfl ?_)
  refine gl_cons (gs_pure (enters kcall119 (.cons rfl .nil)) (number_yes nb ⟨h0, h1⟩) rfl rfl rfl (fun _ _ => trivial) ?_)
  refine gl_cons (gs_val (val_not rfl) rfl rfl rfl ?_)
  refine gl_cons (gs_val (val_assign rfl) rfl rfl rfl ?_)
  refine gl_nil ?_
  refine gk_seq ?_
  refine gc_false rfl ?_
  refine gc_seq ?_
  refine gc_region ?_
  refine gl_cons (gs_val (val_fieldAddr kfo70_2 rfl) rfl rfl rfl ?_)
  refine gl_cons (gs_val (val_load1 kag54 rfl (sees_mem (by repeat (first | exact .head _ | refine .tail _ ?_ | refine List.mem_append_right _ ?_))) rfl) rfl rfl rfl ?_)
  refine gl_cons (gs_val (val_lenSli ksl54 rfl) rfl rfl rfl ?_)
  refine gl_cons (gs_val (val_no (val_lss rfl rfl) (by omega)) rfl rfl rfl ?_)
  refine gl_cons (gs_val (val_assign rfl) rfl rfl rfl ?_)
  refine gl_nil ?_
  refine gk_seq ?_
  refine gc_false rfl ?_
  refine gc_seq ?_
  refine gc_region ?_
  refine gl_cons (gs_val (val_fieldAddr kfo70_2 rfl) rfl rfl rfl ?_)
  refine gl_cons (gs_val (val_load1 kag54 rfl (sees_mem (by repeat (first | exact .head _ | refine .tail _ ?_ | refine List.mem_append_right _ ?_))) rfl) rfl rfl rfl ?_)
  refine gl_cons (gs_val (val_lenSli ksl54 rfl) rfl rfl rfl ?_)
  refine gl_cons (gs_val (val_yes (val_gtr rfl rfl) (by omega)) rfl rfl rfl ?_)
  refine gl_cons (gs_val (val_assign rfl) rfl rfl rfl ?_)
  refine gl_nil ?_
  refine gk_seq ?_
  refine gc_true rfl ?_
  refine gc_seq ?_
  refine gc_region ?_
  refine gl_cons (gs_val (val_assign rfl) rfl rfl rfl ?_)
  refine gl_nil ?_
  refine gk_seq ?_
  refine gc_ret ?_
  refine gk_block_ret ?_
  refine gk_seq_ret ?_
  refine gk_ret rfl (resv_tmp rfl .nil) (List.nil_sublist _) ?_
  exact ⟨rfl, rfl⟩

/-- (*baize/tower.Tower).Take -/
theorem take_full (bt room : Nat) (ml : List Am) (la : Option Addr) (c mb clk : Nat) (rows : List MRow) (NS NB : List Ent) (htw : TWm 70 ml la c rows NS NB) (h : BitVec 64) (nb : Int) (ba : Option Addr) (n cap : Nat) (h0 : 0 ≤ nb) (h1 : nb ≤ 1099511627776) (h8 : 8 ≤ n) (h9 : n ≤ 32776) (hix : ixA h (ml.map Am.app) = none) (hroom : ml.length = room) : Turns Try.prog 41 ([.pointer (some ⟨bt, 0, none⟩), apV h nb (.slice ba n cap)]).toArray (fun _ => True) (TWL 175 bt room la ml.length c mb clk rows NS NB) (fun _ : Unit => True) (fun _ => I64 8) (fun _ => TWL 175 bt room la ml.length c mb clk rows NS NB) := by
  refine spec_walk (n := 93) Try.func41 rfl rfl rfl (fun w0 hpre => ?_)
  refine gc_seq ?_
  refine gc_region ?_
  refine gl_cons (gs_box rfl rfl rfl rfl (fun b3 => ?_))
  refine gl_cons (gs_val (val_assign rfl) rfl rfl rfl ?_)
  refine gl_nil ?_
  refine gk_seq ?_
  refine gc_seq ?_
  refine gc_block ?_
  refine gc_seq ?_
  refine gc_region ?_
  refine gl_cons (gs_val (val_move rfl) rfl rfl rfl ?_)
  refine gl_cons (gs_val (val_eqlNil kun66 rfl rfl) rfl rfl rfl ?_)
  refine gl_cons (gs_val (val_assign rfl) rfl rfl rfl ?_)
  refine gl_nil ?_
  refine gk_seq ?_
  refine gc_false rfl ?_
  refine gc_seq ?_
  refine gc_region ?_
  refine gl_cons (gs_val (val_fieldAddr kfo70_1 rfl) rfl rfl rfl ?_)
  refine gl_cons (gs_val (val_load1 kag3 rfl (sees_mem (by repeat (first | exact .head _ | refine .tail _ ?_ | refine List.mem_append_right _ ?_))) rfl) rfl rfl rfl ?_)
  refine gl_cons (gs_pure (enters kcall119 (.cons rfl .nil)) (number_yes nb ⟨h0, h1⟩) rfl rfl rfl (fun _ _ => trivial) ?_)
  refine gl_cons (gs_val (val_not rfl) rfl rfl rfl ?_)
  refine gl_cons (gs_val (val_assign rfl) rfl rfl rfl ?_)
  refine gl_nil ?_
  refine gk_seq ?_
  refine gc_false rfl ?_
  refine gc_seq ?_
  refine gc_region ?_
  refine gl_cons (gs_val (val_fieldAddr kfo70_2 rfl) rfl rfl rfl ?_)
  refine gl_cons (gs_val (val_load1 kag54 rfl (sees_mem (by repeat (first | exact .head _ | refine .tail _ ?_ | refine List.mem_append_right _ ?_))) rfl) rfl rfl rfl ?_)
  refine gl_cons (gs_val (val_lenSli ksl54 rfl) rfl rfl rfl ?_)
  refine gl_cons (gs_val (val_no (val_lss rfl rfl) (by omega)) rfl rfl rfl ?_)
  refine gl_cons (gs_val (val_assign rfl) rfl rfl rfl ?_)
  refine gl_nil ?_
  refine gk_seq ?_
  refine gc_false rfl ?_
  refine gc_seq ?_
  refine gc_region ?_
  refine gl_cons (gs_val (val_fieldAddr kfo70_2 rfl) rfl rfl rfl ?_)
  refine gl_cons (gs_val (val_load1 kag54 rfl (sees_mem (by repeat (first | exact .head _ | refine .tail _ ?_ | refine List.mem_append_right _ ?_))) rfl) rfl rfl rfl ?_)
  refine gl_cons (gs_val (val_lenSli ksl54 rfl) rfl rfl rfl ?_)
  refine gl_cons (gs_val (val_no (val_gtr rfl rfl) (by omega)) rfl rfl rfl ?_)
  refine gl_cons (gs_val (val_assign rfl) rfl rfl rfl ?_)
  refine gl_nil ?_
  refine gk_seq ?_
  refine gc_false rfl ?_
  refine gc_skip ?_
  refine gk_block ?_
  refine gk_seq ?_
  refine gc_seq ?_
  refine gc_drawAll kmixed (by kernel_rfl) ?_
  refine gq_val (val_move rfl) rfl rfl rfl ?_
  refine gq_val (val_nilCheck rfl) rfl rfl rfl ?_
  refine gq_val (val_fieldAddr kfo175_2 rfl) rfl rfl rfl ?_
  refine gq_val (val_load1 kag172 rfl (sees_mem (by repeat (first | exact .head _ | refine .tail _ ?_ | refine List.mem_append_right _ ?_))) rfl) rfl rfl rfl ?_
  refine gq_val (val_fieldAddr kfo70_0 rfl) rfl rfl rfl ?_
  refine gq_val (val_loadA kag31 rfl (sees_mem (by repeat (first | exact .head _ | refine .tail _ ?_ | refine List.mem_append_right _ ?_))) rfl rfl) rfl rfl rfl ?_
  refine gq_val (val_cast (v := .tuple #[I64 0, .bool false]) (val_lookup2 (l := rows) (clk := clk) (d := h) (by kernel_rfl : mapT Try.prog 172 = some (31, 3)) kdig31 kze3 rfl rfl rfl (knows_mem (by repeat (first | exact .head _ | refine .tail _ ?_ | refine List.mem_append_right _ ?_)))) (look_tup_none (htw.lost hix))) rfl rfl rfl ?_
  refine gq_val (val_move rfl) rfl rfl rfl ?_
  refine gq_val (val_extract rfl rfl) rfl rfl rfl ?_
  refine gq_val (val_extract rfl rfl) rfl rfl rfl ?_
  refine gq_val (val_assign rfl) rfl rfl rfl ?_
  refine gq_val (val_assign rfl) rfl rfl rfl ?_
  refine gq_nil ?_
  refine gl_nil ?_
  refine gk_seq ?_
  refine gc_seq ?_
  refine gc_block ?_
  refine gc_seq ?_
  refine gc_drawAll kmixed (by kernel_rfl) ?_
  refine gq_val (val_move rfl) rfl rfl rfl ?_
  refine gq_val (val_move rfl) rfl rfl rfl ?_
  refine gq_skip rfl rfl rfl ?_
  refine gq_skip rfl rfl rfl ?_
  refine gq_skip rfl rfl rfl ?_
  refine gq_skip rfl rfl rfl ?_
  refine gq_skip rfl rfl rfl ?_
  refine gq_skip rfl rfl rfl ?_
  refine gq_skip rfl rfl rfl ?_
  refine gq_skip rfl rfl rfl ?_
  refine gq_skip rfl rfl rfl ?_
  refine gq_skip rfl rfl rfl ?_
  refine gq_skip rfl rfl rfl ?_
  refine gq_val (val_pick_f rfl rfl) rfl rfl rfl ?_
  refine gq_val (val_assign rfl) rfl rfl rfl ?_
  refine gq_nil ?_
  refine gl_nil ?_
  refine gk_seq ?_
  refine gc_false rfl ?_
  refine gc_seq ?_
  refine gc_region ?_
  refine gl_cons (gs_val (val_move rfl) rfl rfl rfl ?_)
  refine gl_cons (gs_val (val_assign rfl) rfl rfl rfl ?_)
  refine gl_nil ?_
  refine gk_seq ?_
  refine gc_false rfl ?_
  refine gc_seq ?_
  refine gc_drawAll kmixed (by kernel_rfl) ?_
  refine gq_val (val_move rfl) rfl rfl rfl ?_
  refine gq_val (val_nilCheck rfl) rfl rfl rfl ?_
  refine gq_val (val_fieldAddr kfo175_1 rfl) rfl rfl rfl ?_
  refine gq_val (val_load1 kag173 rfl (sees_mem (by repeat (first | exact .head _ | refine .tail _ ?_ | refine List.mem_append_right _ ?_))) rfl) rfl rfl rfl ?_
  refine gq_val (val_lenSli ksl173 rfl) rfl rfl rfl ?_
  refine gq_val (val_move rfl) rfl rfl rfl ?_
  refine gq_val (val_nilCheck rfl) rfl rfl rfl ?_
  refine gq_val (val_fieldAddr kfo175_0 rfl) rfl rfl rfl ?_
  refine gq_val (val_load1 kag3 rfl (sees_mem (by repeat (first | exact .head _ | refine .tail _ ?_ | refine List.mem_append_right _ ?_))) rfl) rfl rfl rfl ?_
  refine gq_val (val_yes (val_eql rfl rfl) (by rw [hroom])) rfl rfl rfl ?_
  refine gq_val (val_assign rfl) rfl rfl rfl ?_
  refine gq_nil ?_
  refine gl_nil ?_
  refine gk_seq ?_
  refine gc_true rfl ?_
  refine gc_seq ?_
  refine gc_region ?_
  refine gl_cons (gs_val (val_assign rfl) rfl rfl rfl ?_)
  refine gl_nil ?_
  refine gk_seq ?_
  refine gc_ret ?_
  refine gk_block_ret ?_
  refine gk_seq_ret ?_
  refine gk_ret rfl (resv_tmp rfl .nil) (.cons _ (List.Sublist.refl _)) ?_
  exact ⟨(), trivial, rfl, rfl⟩

/-- (*baize/tower.Tower).Take -/
theorem take_old (bt room : Nat) (ml : List Am) (lb : Nat) (c mb clk : Nat) (rows : List MRow) (NS NB : List Ent) (htw : TWm 70 ml (some ⟨lb, 0, none⟩) c rows NS NB) (h : BitVec 64) (nb : Int) (ba : Option Addr) (n cap : Nat) (h0 : 0 ≤ nb) (h1 : nb ≤ 1099511627776) (h8 : 8 ≤ n) (h9 : n ≤ 32776) (i : Nat) (hil : i < ml.length) (hix : ixA h (ml.map Am.app) = some i) (ho : nb ≤ ml[i].nb) : Turns Try.prog 41 ([.pointer (some ⟨bt, 0, none⟩), apV h nb (.slice ba n cap)]).toArray (fun _ => True) (TWL 175 bt room (some ⟨lb, 0, none⟩) ml.length c mb clk rows NS NB) (fun _ : Unit => True) (fun _ => I64 18) (fun _ => TWL 175 bt room (some ⟨lb, 0, none⟩) ml.length c mb clk rows NS NB) := by
  refine spec_walk (n := 93) Try.func41 rfl rfl rfl (fun w0 hpre => ?_)
  refine gc_seq ?_
  refine gc_region ?_
  refine gl_cons (gs_box rfl rfl rfl rfl (fun b3 => ?_))
  refine gl_cons (gs_val (val_assign rfl) rfl rfl rfl ?_)
  refine gl_nil ?_
  refine gk_seq ?_
  refine gc_seq ?_
  refine gc_block ?_
  refine gc_seq ?_
  refine gc_region ?_
  refine gl_cons (gs_val (val_move rfl) rfl rfl rfl ?_)
  refine gl_cons (gs_val (val_eqlNil kun66 rfl rfl) rfl rfl rfl ?_)
  refine gl_cons (gs_val (val_assign rfl) rfl rfl rfl ?_)
  refine gl_nil ?_
  refine gk_seq ?_
  refine gc_false rfl ?_
  refine gc_seq ?_
  refine gc_region ?_
  refine gl_cons (gs_val (val_fieldAddr kfo70_1 rfl) rfl rfl rfl ?_)
  refine gl_cons (gs_val (val_load1 kag3 rfl (sees_mem (by repeat (first | exact .head _ | refine .tail _ ?_ | refine List.mem_append_right _ ?_))) rfl) rfl rfl rfl ?_)
  refine gl_cons (gs_pure (enters kcall119 (.cons rfl .nil)) (number_yes nb ⟨h0, h1⟩) rfl rfl rfl (fun _ _ => trivial) ?_)
  refine gl_cons (gs_val (val_not rfl) rfl rfl rfl ?_)
  refine gl_cons (gs_val (val_assign rfl) rfl rfl rfl ?_)
  refine gl_nil ?_
  refine gk_seq ?_
  refine gc_false rfl ?_
  refine gc_seq ?_
  refine gc_region ?_
  refine gl_cons (gs_val (val_fieldAddr kfo70_2 rfl) rfl rfl rfl ?_)
  refine gl_cons (gs_val (val_load1 kag54 rfl (sees_mem (by repeat (first | exact .head _ | refine .tail _ ?_ | refine List.mem_append_right _ ?_))) rfl) rfl rfl rfl ?_)
  refine gl_cons (gs_val (val_lenSli ksl54 rfl) rfl rfl rfl ?_)
  refine gl_cons (gs_val (val_no (val_lss rfl rfl) (by omega)) rfl rfl rfl ?_)
  refine gl_cons (gs_val (val_assign rfl) rfl rfl rfl ?_)
  refine gl_nil ?_
  refine gk_seq ?_
  refine gc_false rfl ?_
  refine gc_seq ?_
  refine gc_region ?_
  refine gl_cons (gs_val (val_fieldAddr kfo70_2 rfl) rfl rfl rfl ?_)
  refine gl_cons (gs_val (val_load1 kag54 rfl (sees_mem (by repeat (first | exact .head _ | refine .tail _ ?_ | refine List.mem_append_right _ ?_))) rfl) rfl rfl rfl ?_)
  refine gl_cons (gs_val (val_lenSli ksl54 rfl) rfl rfl rfl ?_)
  refine gl_cons (gs_val (val_no (val_gtr rfl rfl) (by omega)) rfl rfl rfl ?_)
  refine gl_cons (gs_val (val_assign rfl) rfl rfl rfl ?_)
  refine gl_nil ?_
  refine gk_seq ?_
  refine gc_false rfl ?_
  refine gc_skip ?_
  refine gk_block ?_
  refine gk_seq ?_
  refine gc_seq ?_
  refine gc_drawAll kmixed (by kernel_rfl) ?_
  refine gq_val (val_move rfl) rfl rfl rfl ?_
  refine gq_val (val_nilCheck rfl) rfl rfl rfl ?_
  refine gq_val (val_fieldAddr kfo175_2 rfl) rfl rfl rfl ?_
  refine gq_val (val_load1 kag172 rfl (sees_mem (by repeat (first | exact .head _ | refine .tail _ ?_ | refine List.mem_append_right _ ?_))) rfl) rfl rfl rfl ?_
  refine gq_val (val_fieldAddr kfo70_0 rfl) rfl rfl rfl ?_
  refine gq_val (val_loadA kag31 rfl (sees_mem (by repeat (first | exact .head _ | refine .tail _ ?_ | refine List.mem_append_right _ ?_))) rfl rfl) rfl rfl rfl ?_
  refine gq_val (val_cast (v := .tuple #[NV i, .bool true]) (val_lookup2 (l := rows) (clk := clk) (d := h) (by kernel_rfl : mapT Try.prog 172 = some (31, 3)) kdig31 kze3 rfl rfl rfl (knows_mem (by repeat (first | exact .head _ | refine .tail _ ?_ | refine List.mem_append_right _ ?_)))) (look_tup_some (htw.look hix))) rfl rfl rfl ?_
  refine gq_val (val_move rfl) rfl rfl rfl ?_
  refine gq_val (val_extract rfl rfl) rfl rfl rfl ?_
  refine gq_val (val_extract rfl rfl) rfl rfl rfl ?_
  refine gq_val (val_assign rfl) rfl rfl rfl ?_
  refine gq_val (val_assign rfl) rfl rfl rfl ?_
  refine gq_nil ?_
  refine gl_nil ?_
  refine gk_seq ?_
  refine gc_seq ?_
  refine gc_block ?_
  refine gc_seq ?_
  refine gc_drawAll kmixed (by kernel_rfl) ?_
  refine gq_val (val_move rfl) rfl rfl rfl ?_
  refine gq_val (val_move rfl) rfl rfl rfl ?_
  refine gq_val (val_move rfl) rfl rfl rfl ?_
  refine gq_val (val_nilCheck rfl) rfl rfl rfl ?_
  refine gq_val (val_fieldAddr kfo175_1 rfl) rfl rfl rfl ?_
  refine gq_val (val_load1 kag173 rfl (sees_mem (by repeat (first | exact .head _ | refine .tail _ ?_ | refine List.mem_append_right _ ?_))) rfl) rfl rfl rfl ?_
  refine gq_val (val_move rfl) rfl rfl rfl ?_
  refine gq_val (val_indexRow (m := i) ksl173 rfl rfl rfl hil (htw.own.look (by repeat (first | exact .here | exact .headR | exact .app | refine .tail ?_ | refine .appr ?_))) hil) rfl rfl rfl ?_
  refine gq_val (val_fieldAddr kfo70_1 rfl) rfl rfl rfl ?_
  refine gq_val (val_load1 kag3 rfl ((htw.own.look (by repeat (first | exact .here | exact .headR | exact .app | refine .tail ?_ | refine .appr ?_))).rowAt hil 8) rfl) rfl rfl rfl ?_
  refine gq_val (val_fieldAddr kfo70_1 rfl) rfl rfl rfl ?_
  refine gq_val (val_load1 kag3 rfl (sees_mem (by repeat (first | exact .head _ | refine .tail _ ?_ | refine List.mem_append_right _ ?_))) rfl) rfl rfl rfl ?_
  refine gq_val (val_yes (val_geq rfl rfl) (by omega)) rfl rfl rfl ?_
  refine gq_val (val_pick_t rfl rfl) rfl rfl rfl ?_
  refine gq_val (val_assign rfl) rfl rfl rfl ?_
  refine gq_nil ?_
  refine gl_nil ?_
  refine gk_seq ?_
  refine gc_true rfl ?_
  refine gc_seq ?_
  refine gc_region ?_
  refine gl_cons (gs_val (val_assign rfl) rfl rfl rfl ?_)
  refine gl_nil ?_
  refine gk_seq ?_
  refine gc_ret ?_
  refine gk_block_ret ?_
  refine gk_seq_ret ?_
  refine gk_ret rfl (resv_tmp rfl .nil) (.cons _ (List.Sublist.refl _)) ?_
  exact ⟨(), trivial, rfl, rfl⟩

/-- (*baize/tower.Tower).Take -/
theorem take_more (bt room : Nat) (ml : List Am) (lb : Nat) (c mb clk : Nat) (rows : List MRow) (NS NB : List Ent) (htw : TWm 70 ml (some ⟨lb, 0, none⟩) c rows NS NB) (h : BitVec 64) (nb : Int) (ba : Option Addr) (n cap : Nat) (l : List UInt8) (hn : l.length = n) (h0 : 0 ≤ nb) (h1 : nb ≤ 1099511627776) (h8 : 8 ≤ n) (h9 : n ≤ 32776) (i : Nat) (hil : i < ml.length) (hix : ixA h (ml.map Am.app) = some i) (hih : ml[i].h = h) (ho : ml[i].nb < nb) : Turns Try.prog 41 ([.pointer (some ⟨bt, 0, none⟩), apV h nb (.slice ba n cap)]).toArray (fun w => Row w ((TWL 175 bt room (some ⟨lb, 0, none⟩) ml.length c mb clk rows NS NB).map Ent.b) ba (l.map U8)) (TWL 175 bt room (some ⟨lb, 0, none⟩) ml.length c mb clk rows NS NB) (fun s : List Ent => TW 175 70 bt room ((ml.map Am.app).set i (h, nb, l)) s) (fun _ => I64 0) (fun s => s) := by
  subst hn
  refine spec_walk (n := 93) Try.func41 rfl rfl rfl (fun w0 hpre => ?_)
  refine gc_seq ?_
  refine gc_region ?_
  refine gl_cons (gs_box rfl rfl rfl rfl (fun b3 => ?_))
  refine gl_cons (gs_val (val_assign rfl) rfl rfl rfl ?_)
  refine gl_nil ?_
  refine gk_seq ?_
  refine gc_seq ?_
  refine gc_block ?_
  refine gc_seq ?_
  refine gc_region ?_
  refine gl_cons (gs_val (val_move rfl) rfl rfl rfl ?_)
  refine gl_cons (gs_val (val_eqlNil kun66 rfl rfl) rfl rfl rfl ?_)
  refine gl_cons (gs_val (val_assign rfl) rfl rfl rfl ?_)
  refine gl_nil ?_
  refine gk_seq ?_
  refine gc_false rfl ?_
  refine gc_seq ?_
  refine gc_region ?_
  refine gl_cons (gs_val (val_fieldAddr kfo70_1 rfl) rfl rfl rfl ?_)
  refine gl_cons (gs_val (val_load1 kag3 rfl (sees_mem (by repeat (first | exact .head _ | refine .tail _ ?_ | refine List.mem_append_right _ ?_))) rfl) rfl rfl rfl ?_)
  refine gl_cons (gs_pure (enters kcall119 (.cons rfl .nil)) (number_yes nb ⟨h0, h1⟩) rfl rfl rfl (fun _ _ => trivial) ?_)
  refine gl_cons (gs_val (val_not rfl) rfl rfl rfl ?_)
  refine gl_cons (gs_val (val_assign rfl) rfl rfl rfl ?_)
  refine gl_nil ?_
  refine gk_seq ?_
  refine gc_false rfl ?_
  refine gc_seq ?_
  refine gc_region ?_
  refine gl_cons (gs_val (val_fieldAddr kfo70_2 rfl) rfl rfl rfl ?_)
  refine gl_cons (gs_val (val_load1 kag54 rfl (sees_mem (by repeat (first | exact .head _ | refine .tail _ ?_ | refine List.mem_append_right _ ?_))) rfl) rfl rfl rfl ?_)
  refine gl_cons (gs_val (val_lenSli ksl54 rfl) rfl rfl rfl ?_)
  refine gl_cons (gs_val (val_no (val_lss rfl rfl) (by omega)) rfl rfl rfl ?_)
  refine gl_cons (gs_val (val_assign rfl) rfl rfl rfl ?_)
  refine gl_nil ?_
  refine gk_seq ?_
  refine gc_false rfl ?_
  refine gc_seq ?_
  refine gc_region ?_
  refine gl_cons (gs_val (val_fieldAddr kfo70_2 rfl) rfl rfl rfl ?_)
  refine gl_cons (gs_val (val_load1 kag54 rfl (sees_mem (by repeat (first | exact .head _ | refine .tail _ ?_ | refine List.mem_append_right _ ?_))) rfl) rfl rfl rfl ?_)
  refine gl_cons (gs_val (val_lenSli ksl54 rfl) rfl rfl rfl ?_)
  refine gl_cons (gs_val (val_no (val_gtr rfl rfl) (by omega)) rfl rfl rfl ?_)
  refine gl_cons (gs_val (val_assign rfl) rfl rfl rfl ?_)
  refine gl_nil ?_
  refine gk_seq ?_
  refine gc_false rfl ?_
  refine gc_skip ?_
  refine gk_block ?_
  refine gk_seq ?_
  refine gc_seq ?_
  refine gc_drawAll kmixed (by kernel_rfl) ?_
  refine gq_val (val_move rfl) rfl rfl rfl ?_
  refine gq_val (val_nilCheck rfl) rfl rfl rfl ?_
  refine gq_val (val_fieldAddr kfo175_2 rfl) rfl rfl rfl ?_
  refine gq_val (val_load1 kag172 rfl (sees_mem (by repeat (first | exact .head _ | refine .tail _ ?_ | refine List.mem_append_right _ ?_))) rfl) rfl rfl rfl ?_
  refine gq_val (val_fieldAddr kfo70_0 rfl) rfl rfl rfl ?_
  refine gq_val (val_loadA kag31 rfl (sees_mem (by repeat (first | exact .head _ | refine .tail _ ?_ | refine List.mem_append_right _ ?_))) rfl rfl) rfl rfl rfl ?_
  refine gq_val (val_cast (v := .tuple #[NV i, .bool true]) (val_lookup2 (l := rows) (clk := clk) (d := h) (by kernel_rfl : mapT Try.prog 172 = some (31, 3)) kdig31 kze3 rfl rfl rfl (knows_mem (by repeat (first | exact .head _ | refine .tail _ ?_ | refine List.mem_append_right _ ?_)))) (look_tup_some (htw.look hix))) rfl rfl rfl ?_
  refine gq_val (val_move rfl) rfl rfl rfl ?_
  refine gq_val (val_extract rfl rfl) rfl rfl rfl ?_
  refine gq_val (val_extract rfl rfl) rfl rfl rfl ?_
  refine gq_val (val_assign rfl) rfl rfl rfl ?_
  refine gq_val (val_assign rfl) rfl rfl rfl ?_
  refine gq_nil ?_
  refine gl_nil ?_
  refine gk_seq ?_
  refine gc_seq ?_
  refine gc_block ?_
  refine gc_seq ?_
  refine gc_drawAll kmixed (by kernel_rfl) ?_
  refine gq_val (val_move rfl) rfl rfl rfl ?_
  refine gq_val (val_move rfl) rfl rfl rfl ?_
  refine gq_val (val_move rfl) rfl rfl rfl ?_
  refine gq_val (val_nilCheck rfl) rfl rfl rfl ?_
  refine gq_val (val_fieldAddr kfo175_1 rfl) rfl rfl rfl ?_
  refine gq_val (val_load1 kag173 rfl (sees_mem (by repeat (first | exact .head _ | refine .tail _ ?_ | refine List.mem_append_right _ ?_))) rfl) rfl rfl rfl ?_
  refine gq_val (val_move rfl) rfl rfl rfl ?_
  refine gq_val (val_indexRow (m := i) ksl173 rfl rfl rfl hil (htw.own.look (by repeat (first | exact .here | exact .headR | exact .app | refine .tail ?_ | refine .appr ?_))) hil) rfl rfl rfl ?_
  refine gq_val (val_fieldAddr kfo70_1 rfl) rfl rfl rfl ?_
  refine gq_val (val_load1 kag3 rfl ((htw.own.look (by repeat (first | exact .here | exact .headR | exact .app | refine .tail ?_ | refine .appr ?_))).rowAt hil 8) rfl) rfl rfl rfl ?_
  refine gq_val (val_fieldAddr kfo70_1 rfl) rfl rfl rfl ?_
  refine gq_val (val_load1 kag3 rfl (sees_mem (by repeat (first | exact .head _ | refine .tail _ ?_ | refine List.mem_append_right _ ?_))) rfl) rfl rfl rfl ?_
  refine gq_val (val_no (val_geq rfl rfl) (by omega)) rfl rfl rfl ?_
  refine gq_val (val_pick_t rfl rfl) rfl rfl rfl ?_
  refine gq_val (val_assign rfl) rfl rfl rfl ?_
  refine gq_nil ?_
  refine gl_nil ?_
  refine gk_seq ?_
  refine gc_false rfl ?_
  refine gc_seq ?_
  refine gc_region ?_
  refine gl_cons (gs_val (val_move rfl) rfl rfl rfl ?_)
  refine gl_cons (gs_val (val_assign rfl) rfl rfl rfl ?_)
  refine gl_nil ?_
  refine gk_seq ?_
  refine gc_true rfl ?_
  refine ga_start (m := 9) (ls := [false, false, false, false, false, false, false, false, false]) kmixed rfl rfl ?_
  apply share3 (α := Option Addr) (β := Nat) (γ := List Ent) (m' := 2) (ls' := [true, true, true, true, true, true, true, false, false])
  · intro hD0
    apply share0  (m' := 3) (ls' := [true, true, true, true, true, true, false, false, false])
    · intro hD1
      refine ga_take (i := 0) (ls' := [true, false, false, false, false, false, false, false, false]) rfl (by kernel_rfl) rfl (fun _ _ _ => val_move rfl) rfl rfl rfl ?_
      refine ga_take (i := 1) (ls' := [true, true, false, false, false, false, false, false, false]) rfl (by kernel_rfl) rfl (fun _ _ _ => val_nilCheck rfl) rfl rfl rfl ?_
      refine ga_take (i := 2) (ls' := [true, true, true, false, false, false, false, false, false]) rfl (by kernel_rfl) rfl (fun _ _ _ => val_fieldAddr kfo175_1 rfl) rfl rfl rfl ?_
      refine ga_take (i := 4) (ls' := [true, true, true, false, true, false, false, false, false]) rfl (by kernel_rfl) rfl (fun _ _ _ => val_move rfl) rfl rfl rfl ?_
      refine ga_branch (rs := [3, 5]) (by kernel_rfl) rfl (.cons (ls' := [true, true, true, true, true, false, false, false, false]) rfl rfl ?_ (.cons (ls' := [true, true, true, false, true, true, false, false, false]) rfl rfl ?_ .nil))
      · skip
        refine gs_val (val_load1 kag173 rfl (sees_mem (by repeat (first | exact .head _ | refine .tail _ ?_ | refine List.mem_append_right _ ?_))) rfl) rfl rfl rfl ?_
        refine ga_branch (rs := [5]) (by kernel_rfl) rfl (.cons (ls' := [true, true, true, true, true, true, false, false, false]) rfl rfl ?_ .nil)
        refine gs_val (val_loadA kag70 rfl (sees_mem (by repeat (first | exact .head _ | refine .tail _ ?_ | refine List.mem_append_right _ ?_))) rfl rfl) rfl rfl rfl ?_
        refine gx_env (F := [(0, _), (1, _), (3, _), (4, _), (5, _), (6, _), (7, _), (8, _), (9, _), (10, _), (11, _), (12, _), (13, _), (14, _), (15, _), (16, _), (17, _), (18, _), (19, _), (20, _), (21, _), (22, _), (23, _), (24, _), (25, _), (26, _), (27, _), (28, _), (29, _), (30, _), (31, _), (32, _), (33, _), (34, _), (57, _), (58, _), (59, _), (60, _), (61, _), (62, _), (63, _), (64, _), (65, _), (66, _), (67, _), (68, _), (69, _), (70, _), (71, _), (72, _), (73, _), (74, _), (75, _), (76, _), (77, _), (78, _), (79, _)]) (.cons rfl (.cons rfl (.cons rfl (.cons rfl (.cons rfl (.cons rfl (.cons rfl (.cons rfl (.cons rfl (.cons rfl (.cons rfl (.cons rfl (.cons rfl (.cons rfl (.cons rfl (.cons rfl (.cons rfl (.cons rfl (.cons rfl (.cons rfl (.cons rfl (.cons rfl (.cons rfl (.cons rfl (.cons rfl (.cons rfl (.cons rfl (.cons rfl (.cons rfl (.cons rfl (.cons rfl (.cons rfl (.cons rfl (.cons rfl (.cons rfl (.cons rfl (.cons rfl (.cons rfl (.cons rfl (.cons rfl (.cons rfl (.cons rfl (.cons rfl (.cons rfl (.cons rfl (.cons rfl (.cons rfl (.cons rfl (.cons rfl (.cons rfl (.cons rfl (.cons rfl (.cons rfl (.cons rfl (.cons rfl (.cons rfl (.cons rfl .nil))))))))))))))))))))))))))))))))))))))))))))))))))))))))) (gx_perm (by first | exact .refl _ | (repeat (first | exact .refl _ | refine perm_take (by first | exact .head | exact .tail .head | exact .tail (.tail .head) | exact .tail (.tail (.tail .head)) | exact .tail (.tail (.tail (.tail .head))) | exact .tail (.tail (.tail (.tail (.tail .head))))) ?_ | refine perm_takeL (by repeat (first | exact .app | exact .here | apply TakeL.tail | apply TakeL.appr)) ?_ | refine perm_takeX (by repeat (first | exact .cons .head .nil | apply TakeL.tail | apply TakeL.appr)) ?_))) (hD1  True.intro))
      · skip
        refine gs_val (val_loadA kag70 rfl (sees_mem (by repeat (first | exact .head _ | refine .tail _ ?_ | refine List.mem_append_right _ ?_))) rfl rfl) rfl rfl rfl ?_
        refine ga_branch (rs := [3, 6]) (by kernel_rfl) rfl (.cons (ls' := [true, true, true, true, true, true, false, false, false]) rfl rfl ?_ (.cons (ls' := [true, true, true, false, true, true, true, false, false]) rfl rfl ?_ .nil))
        · skip
          refine gs_val (val_load1 kag173 rfl (sees_mem (by repeat (first | exact .head _ | refine .tail _ ?_ | refine List.mem_append_right _ ?_))) rfl) rfl rfl rfl ?_
          refine gx_env (F := [(0, _), (1, _), (3, _), (4, _), (5, _), (6, _), (7, _), (8, _), (9, _), (10, _), (11, _), (12, _), (13, _), (14, _), (15, _), (16, _), (17, _), (18, _), (19, _), (20, _), (21, _), (22, _), (23, _), (24, _), (25, _), (26, _), (27, _), (28, _), (29, _), (30, _), (31, _), (32, _), (33, _), (34, _), (57, _), (58, _), (59, _), (60, _), (61, _), (62, _), (63, _), (64, _), (65, _), (66, _), (67, _), (68, _), (69, _), (70, _), (71, _), (72, _), (73, _), (74, _), (75, _), (76, _), (77, _), (78, _), (79, _)]) (.cons rfl (.cons rfl (.cons rfl (.cons rfl (.cons rfl (.cons rfl (.cons rfl (.cons rfl (.cons rfl (.cons rfl (.cons rfl (.cons rfl (.cons rfl (.cons rfl (.cons rfl (.cons rfl (.cons rfl (.cons rfl (.cons rfl (.cons rfl (.cons rfl (.cons rfl (.cons rfl (.cons rfl (.cons rfl (.cons rfl (.cons rfl (.cons rfl (.cons rfl (.cons rfl (.cons rfl (.cons rfl (.cons rfl (.cons rfl (.cons rfl (.cons rfl (.cons rfl (.cons rfl (.cons rfl (.cons rfl (.cons rfl (.cons rfl (.cons rfl (.cons rfl (.cons rfl (.cons rfl (.cons rfl (.cons rfl (.cons rfl (.cons rfl (.cons rfl (.cons rfl (.cons rfl (.cons rfl (.cons rfl (.cons rfl (.cons rfl .nil))))))))))))))))))))))))))))))))))))))))))))))))))))))))) (gx_perm (by first | exact .refl _ | (repeat (first | exact .refl _ | refine perm_take (by first | exact .head | exact .tail .head | exact .tail (.tail .head) | exact .tail (.tail (.tail .head)) | exact .tail (.tail (.tail (.tail .head))) | exact .tail (.tail (.tail (.tail (.tail .head))))) ?_ | refine perm_takeL (by repeat (first | exact .app | exact .here | apply TakeL.tail | apply TakeL.appr)) ?_ | refine perm_takeX (by repeat (first | exact .cons .head .nil | apply TakeL.tail | apply TakeL.appr)) ?_))) (hD1  True.intro))
        · skip
          refine gs_makes (enters kcall123 (.cons rfl .nil)) (apClone_spec h nb ba l.length cap l rfl (by omega)) rfl rfl rfl (row_of_sees (sees_row hpre)) (fun ⟨xb, xc, xN⟩ hx => ?_)
          refine gx_perm (List.perm_append_comm_assoc xN (_ :: _ :: _ :: NS) NB) ?_
          refine ga_branch (rs := [3]) (by kernel_rfl) rfl (.cons (ls' := [true, true, true, true, true, true, true, false, false]) rfl rfl ?_ .nil)
          refine gs_val (val_load1 kag173 rfl (sees_mem (by repeat (first | exact .head _ | refine .tail _ ?_ | refine List.mem_append_right _ ?_))) rfl) rfl rfl rfl ?_
          refine gx_env (F := [(0, _), (1, _), (3, _), (4, _), (5, _), (6, _), (7, _), (8, _), (9, _), (10, _), (11, _), (12, _), (13, _), (14, _), (15, _), (16, _), (17, _), (18, _), (19, _), (20, _), (21, _), (22, _), (23, _), (24, _), (25, _), (26, _), (27, _), (28, _), (29, _), (30, _), (31, _), (32, _), (33, _), (34, _), (57, _), (58, _), (59, _), (60, _), (61, _), (62, _), (63, _), (64, _), (65, _), (66, _), (67, _), (68, _), (69, _), (70, _), (71, _), (72, _), (73, _), (74, _), (75, _), (76, _), (77, _), (78, _), (79, _), (80, _)]) (.cons rfl (.cons rfl (.cons rfl (.cons rfl (.cons rfl (.cons rfl (.cons rfl (.cons rfl (.cons rfl (.cons rfl (.cons rfl (.cons rfl (.cons rfl (.cons rfl (.cons rfl (.cons rfl (.cons rfl (.cons rfl (.cons rfl (.cons rfl (.cons rfl (.cons rfl (.cons rfl (.cons rfl (.cons rfl (.cons rfl (.cons rfl (.cons rfl (.cons rfl (.cons rfl (.cons rfl (.cons rfl (.cons rfl (.cons rfl (.cons rfl (.cons rfl (.cons rfl (.cons rfl (.cons rfl (.cons rfl (.cons rfl (.cons rfl (.cons rfl (.cons rfl (.cons rfl (.cons rfl (.cons rfl (.cons rfl (.cons rfl (.cons rfl (.cons rfl (.cons rfl (.cons rfl (.cons rfl (.cons rfl (.cons rfl (.cons rfl (.cons rfl .nil)))))))))))))))))))))))))))))))))))))))))))))))))))))))))) (gx_perm (by first | exact .refl _ | (repeat (first | exact .refl _ | refine perm_take (by first | exact .head | exact .tail .head | exact .tail (.tail .head) | exact .tail (.tail (.tail .head)) | exact .tail (.tail (.tail (.tail .head))) | exact .tail (.tail (.tail (.tail (.tail .head))))) ?_ | refine perm_takeL (by repeat (first | exact .app | exact .here | apply TakeL.tail | apply TakeL.appr)) ?_ | refine perm_takeX (by repeat (first | exact .cons .head .nil | apply TakeL.tail | apply TakeL.appr)) ?_))) (hD0 xb xc xN (And.intro hx True.intro)))
    · rintro  _
      refine ga_branch (rs := [6]) (by kernel_rfl) rfl (.cons (ls' := [true, true, true, true, true, true, true, false, false]) rfl rfl ?_ .nil)
      refine gs_makes (enters kcall123 (.cons rfl .nil)) (apClone_spec h nb ba l.length cap l rfl (by omega)) rfl rfl rfl (row_of_sees (sees_row hpre)) (fun ⟨xb, xc, xN⟩ hx => ?_)
      refine gx_perm (List.perm_append_comm_assoc xN (_ :: _ :: _ :: NS) NB) ?_
      refine gx_env (F := [(0, _), (1, _), (3, _), (4, _), (5, _), (6, _), (7, _), (8, _), (9, _), (10, _), (11, _), (12, _), (13, _), (14, _), (15, _), (16, _), (17, _), (18, _), (19, _), (20, _), (21, _), (22, _), (23, _), (24, _), (25, _), (26, _), (27, _), (28, _), (29, _), (30, _), (31, _), (32, _), (33, _), (34, _), (57, _), (58, _), (59, _), (60, _), (61, _), (62, _), (63, _), (64, _), (65, _), (66, _), (67, _), (68, _), (69, _), (70, _), (71, _), (72, _), (73, _), (74, _), (75, _), (76, _), (77, _), (78, _), (79, _), (80, _)]) (.cons rfl (.cons rfl (.cons rfl (.cons rfl (.cons rfl (.cons rfl (.cons rfl (.cons rfl (.cons rfl (.cons rfl (.cons rfl (.cons rfl (.cons rfl (.cons rfl (.cons rfl (.cons rfl (.cons rfl (.cons rfl (.cons rfl (.cons rfl (.cons rfl (.cons rfl (.cons rfl (.cons rfl (.cons rfl (.cons rfl (.cons rfl (.cons rfl (.cons rfl (.cons rfl (.cons rfl (.cons rfl (.cons rfl (.cons rfl (.cons rfl (.cons rfl (.cons rfl (.cons rfl (.cons rfl (.cons rfl (.cons rfl (.cons rfl (.cons rfl (.cons rfl (.cons rfl (.cons rfl (.cons rfl (.cons rfl (.cons rfl (.cons rfl (.cons rfl (.cons rfl (.cons rfl (.cons rfl (.cons rfl (.cons rfl (.cons rfl (.cons rfl .nil)))))))))))))))))))))))))))))))))))))))))))))))))))))))))) (gx_perm (by first | exact .refl _ | (repeat (first | exact .refl _ | refine perm_take (by first | exact .head | exact .tail .head | exact .tail (.tail .head) | exact .tail (.tail (.tail .head)) | exact .tail (.tail (.tail (.tail .head))) | exact .tail (.tail (.tail (.tail (.tail .head))))) ?_ | refine perm_takeL (by repeat (first | exact .app | exact .here | apply TakeL.tail | apply TakeL.appr)) ?_ | refine perm_takeX (by repeat (first | exact .cons .head .nil | apply TakeL.tail | apply TakeL.appr)) ?_))) (hD0 xb xc xN (And.intro hx True.intro)))
  · rintro xb xc xN ⟨hx, _⟩
    refine ga_branch (rs := [7]) (by kernel_rfl) rfl (.cons (ls' := [true, true, true, true, true, true, true, true, false]) rfl rfl ?_ .nil)
    refine gs_val (val_indexRow (m := i) ksl173 rfl rfl rfl hil (htw.own.look (by repeat (first | exact .here | exact .headR | exact .app | refine .tail ?_ | refine .appr ?_))) hil) rfl rfl rfl ?_
    refine ga_branch (rs := [8]) (by kernel_rfl) rfl (.cons (ls' := [true, true, true, true, true, true, true, true, true]) rfl rfl ?_ .nil)
    refine gs_storeRow (m := i) (a := (⟨h, nb, l, xb, xc⟩ : Am)) ksz70 rfl rfl rfl rfl rfl htw.own hil (fun _ => .tail (.tail (.tail .app))) (fun N2 hin2 => ?_)
    refine ga_done (by kernel_rfl) ?_
    refine gk_block ?_
    refine gk_seq ?_
    refine gc_seq ?_
    refine gc_region ?_
    refine gl_cons (gs_val (val_assign rfl) rfl rfl rfl ?_)
    refine gl_nil ?_
    refine gk_seq ?_
    refine gc_ret ?_
    refine gk_ret rfl (resv_tmp rfl .nil) (.cons _ (List.Sublist.refl _)) ?_
    exact ⟨_, ⟨ml.set i (⟨h, nb, l, xb, xc⟩ : Am), _, c, mb, clk, rows, N2, xN ++ NB, by rw [List.map_set], htw.put hil hih.symm hx.has hx.cap hin2, by rw [List.length_set]⟩, rfl, rfl⟩

/-- (*baize/tower.Tower).Take -/
theorem take_new (bt room : Nat) (ml : List Am) (la : Option Addr) (c mb clk : Nat) (rows : List MRow) (NS NB : List Ent) (htw : TWm 70 ml la c rows NS NB) (h : BitVec 64) (nb : Int) (ba : Option Addr) (n cap : Nat) (l : List UInt8) (hn : l.length = n) (h0 : 0 ≤ nb) (h1 : nb ≤ 1099511627776) (h8 : 8 ≤ n) (h9 : n ≤ 32776) (hix : ixA h (ml.map Am.app) = none) (hroom : ml.length < room) (hr : room ≤ 4096) : Turns Try.prog 41 ([.pointer (some ⟨bt, 0, none⟩), apV h nb (.slice ba n cap)]).toArray (fun w => Row w ((TWL 175 bt room la ml.length c mb clk rows NS NB).map Ent.b) ba (l.map U8)) (TWL 175 bt room la ml.length c mb clk rows NS NB) (fun s : List Ent => TW 175 70 bt room (ml.map Am.app ++ [(h, nb, l)]) s) (fun _ => I64 0) (fun s => s) := by
  subst hn
  refine spec_walk (n := 93) Try.func41 rfl rfl rfl (fun w0 hpre => ?_)
  refine gc_seq ?_
  refine gc_region ?_
  refine gl_cons (gs_box rfl rfl rfl rfl (fun b3 => ?_))
  refine gl_cons (gs_val (val_assign rfl) rfl rfl rfl ?_)
  refine gl_nil ?_
  refine gk_seq ?_
  refine gc_seq ?_
  refine gc_block ?_
  refine gc_seq ?_
  refine gc_region ?_
  refine gl_cons (gs_val (val_move rfl) rfl rfl rfl ?_)
  refine gl_cons (gs_val (val_eqlNil kun66 rfl rfl) rfl rfl rfl ?_)
  refine gl_cons (gs_val (val_assign rfl) rfl rfl rfl ?_)
  refine gl_nil ?_
  refine gk_seq ?_
  refine gc_false rfl ?_
  refine gc_seq ?_
  refine gc_region ?_
  refine gl_cons (gs_val (val_fieldAddr kfo70_1 rfl) rfl rfl rfl ?_)
  refine gl_cons (gs_val (val_load1 kag3 rfl (sees_mem (by repeat (first | exact .head _ | refine .tail _ ?_ | refine List.mem_append_right _ ?_))) rfl) rfl rfl rfl ?_)
  refine gl_cons (gs_pure (enters kcall119 (.cons rfl .nil)) (number_yes nb ⟨h0, h1⟩) rfl rfl rfl (fun _ _ => trivial) ?_)
  refine gl_cons (gs_val (val_not rfl) rfl rfl rfl ?_)
  refine gl_cons (gs_val (val_assign rfl) rfl rfl rfl ?_)
  refine gl_nil ?_
  refine gk_seq ?_
  refine gc_false rfl ?_
  refine gc_seq ?_
  refine gc_region ?_
  refine gl_cons (gs_val (val_fieldAddr kfo70_2 rfl) rfl rfl rfl ?_)
  refine gl_cons (gs_val (val_load1 kag54 rfl (sees_mem (by repeat (first | exact .head _ | refine .tail _ ?_ | refine List.mem_append_right _ ?_))) rfl) rfl rfl rfl ?_)
  refine gl_cons (gs_val (val_lenSli ksl54 rfl) rfl rfl rfl ?_)
  refine gl_cons (gs_val (val_no (val_lss rfl rfl) (by omega)) rfl rfl rfl ?_)
  refine gl_cons (gs_val (val_assign rfl) rfl rfl rfl ?_)
  refine gl_nil ?_
  refine gk_seq ?_
  refine gc_false rfl ?_
  refine gc_seq ?_
  refine gc_region ?_
  refine gl_cons (gs_val (val_fieldAddr kfo70_2 rfl) rfl rfl rfl ?_)
  refine gl_cons (gs_val (val_load1 kag54 rfl (sees_mem (by repeat (first | exact .head _ | refine .tail _ ?_ | refine List.mem_append_right _ ?_))) rfl) rfl rfl rfl ?_)
  refine gl_cons (gs_val (val_lenSli ksl54 rfl) rfl rfl rfl ?_)
  refine gl_cons (gs_val (val_no (val_gtr rfl rfl) (by omega)) rfl rfl rfl ?_)
  refine gl_cons (gs_val (val_assign rfl) rfl rfl rfl ?_)
  refine gl_nil ?_
  refine gk_seq ?_
  refine gc_false rfl ?_
  refine gc_skip ?_
  refine gk_block ?_
  refine gk_seq ?_
  refine gc_seq ?_
  refine gc_drawAll kmixed (by kernel_rfl) ?_
  refine gq_val (val_move rfl) rfl rfl rfl ?_
  refine gq_val (val_nilCheck rfl) rfl rfl rfl ?_
  refine gq_val (val_fieldAddr kfo175_2 rfl) rfl rfl rfl ?_
  refine gq_val (val_load1 kag172 rfl (sees_mem (by repeat (first | exact .head _ | refine .tail _ ?_ | refine List.mem_append_right _ ?_))) rfl) rfl rfl rfl ?_
  refine gq_val (val_fieldAddr kfo70_0 rfl) rfl rfl rfl ?_
  refine gq_val (val_loadA kag31 rfl (sees_mem (by repeat (first | exact .head _ | refine .tail _ ?_ | refine List.mem_append_right _ ?_))) rfl rfl) rfl rfl rfl ?_
  refine gq_val (val_cast (v := .tuple #[I64 0, .bool false]) (val_lookup2 (l := rows) (clk := clk) (d := h) (by kernel_rfl : mapT Try.prog 172 = some (31, 3)) kdig31 kze3 rfl rfl rfl (knows_mem (by repeat (first | exact .head _ | refine .tail _ ?_ | refine List.mem_append_right _ ?_)))) (look_tup_none (htw.lost hix))) rfl rfl rfl ?_
  refine gq_val (val_move rfl) rfl rfl rfl ?_
  refine gq_val (val_extract rfl rfl) rfl rfl rfl ?_
  refine gq_val (val_extract rfl rfl) rfl rfl rfl ?_
  refine gq_val (val_assign rfl) rfl rfl rfl ?_
  refine gq_val (val_assign rfl) rfl rfl rfl ?_
  refine gq_nil ?_
  refine gl_nil ?_
  refine gk_seq ?_
  refine gc_seq ?_
  refine gc_block ?_
  refine gc_seq ?_
  refine gc_drawAll kmixed (by kernel_rfl) ?_
  refine gq_val (val_move rfl) rfl rfl rfl ?_
  refine gq_val (val_move rfl) rfl rfl rfl ?_
  refine gq_skip rfl rfl rfl ?_
  refine gq_skip rfl rfl rfl ?_
  refine gq_skip rfl rfl rfl ?_
  refine gq_skip rfl rfl rfl ?_
  refine gq_skip rfl rfl rfl ?_
  refine gq_skip rfl rfl rfl ?_
  refine gq_skip rfl rfl rfl ?_
  refine gq_skip rfl rfl rfl ?_
  refine gq_skip rfl rfl rfl ?_
  refine gq_skip rfl rfl rfl ?_
  refine gq_skip rfl rfl rfl ?_
  refine gq_val (val_pick_f rfl rfl) rfl rfl rfl ?_
  refine gq_val (val_assign rfl) rfl rfl rfl ?_
  refine gq_nil ?_
  refine gl_nil ?_
  refine gk_seq ?_
  refine gc_false rfl ?_
  refine gc_seq ?_
  refine gc_region ?_
  refine gl_cons (gs_val (val_move rfl) rfl rfl rfl ?_)
  refine gl_cons (gs_val (val_assign rfl) rfl rfl rfl ?_)
  refine gl_nil ?_
  refine gk_seq ?_
  refine gc_false rfl ?_
  refine gc_seq ?_
  refine gc_drawAll kmixed (by kernel_rfl) ?_
  refine gq_val (val_move rfl) rfl rfl rfl ?_
  refine gq_val (val_nilCheck rfl) rfl rfl rfl ?_
  refine gq_val (val_fieldAddr kfo175_1 rfl) rfl rfl rfl ?_
  refine gq_val (val_load1 kag173 rfl (sees_mem (by repeat (first | exact .head _ | refine .tail _ ?_ | refine List.mem_append_right _ ?_))) rfl) rfl rfl rfl ?_
  refine gq_val (val_lenSli ksl173 rfl) rfl rfl rfl ?_
  refine gq_val (val_move rfl) rfl rfl rfl ?_
  refine gq_val (val_nilCheck rfl) rfl rfl rfl ?_
  refine gq_val (val_fieldAddr kfo175_0 rfl) rfl rfl rfl ?_
  refine gq_val (val_load1 kag3 rfl (sees_mem (by repeat (first | exact .head _ | refine .tail _ ?_ | refine List.mem_append_right _ ?_))) rfl) rfl rfl rfl ?_
  refine gq_val (val_no (val_eql rfl rfl) (by omega)) rfl rfl rfl ?_
  refine gq_val (val_assign rfl) rfl rfl rfl ?_
  refine gq_nil ?_
  refine gl_nil ?_
  refine gk_seq ?_
  refine gc_false rfl ?_
  refine gc_seq ?_
  refine gc_draw (m := 11) kmixed (by kernel_rfl) ?_
  refine gq_val (val_move rfl) rfl rfl rfl ?_
  refine gq_val (val_nilCheck rfl) rfl rfl rfl ?_
  refine gq_val (val_fieldAddr kfo175_2 rfl) rfl rfl rfl ?_
  refine gq_val (val_load1 kag172 rfl (sees_mem (by repeat (first | exact .head _ | refine .tail _ ?_ | refine List.mem_append_right _ ?_))) rfl) rfl rfl rfl ?_
  refine gq_val (val_fieldAddr kfo70_0 rfl) rfl rfl rfl ?_
  refine gq_val (val_loadA kag31 rfl (sees_mem (by repeat (first | exact .head _ | refine .tail _ ?_ | refine List.mem_append_right _ ?_))) rfl rfl) rfl rfl rfl ?_
  refine gq_val (val_move rfl) rfl rfl rfl ?_
  refine gq_val (val_nilCheck rfl) rfl rfl rfl ?_
  refine gq_val (val_fieldAddr kfo175_1 rfl) rfl rfl rfl ?_
  refine gq_val (val_load1 kag173 rfl (sees_mem (by repeat (first | exact .head _ | refine .tail _ ?_ | refine List.mem_append_right _ ?_))) rfl) rfl rfl rfl ?_
  refine gq_val (val_lenSli ksl173 rfl) rfl rfl rfl ?_
  refine gq_nil ?_
  refine gs_mapUpdate (l := rows) (clk := clk) (d := h) (v := NV ml.length) (by kernel_rfl : mapT Try.prog 172 = some (31, 3)) kdig31 rfl rfl rfl rfl rfl (.tail (.tail .head)) ?_
  rw [put_new (htw.lost hix)]
  refine gl_nil ?_
  refine gk_seq ?_
  refine ga_start (m := 12) (ls := [false, false, false, false, false, false, false, false, false, false, false, false]) kmixed rfl rfl ?_
  apply share4 (α := Option Addr) (β := Nat) (γ := List Ent) (δ := Nat) (m' := 4) (ls' := [true, true, true, true, true, true, true, true, false, false, false, false])
  · intro hD0
    apply share3 (α := Option Addr) (β := Nat) (γ := List Ent) (m' := 5) (ls' := [true, true, true, true, true, true, true, false, false, false, false, false])
    · intro hD1
      apply share0  (m' := 6) (ls' := [true, true, true, true, true, true, false, false, false, false, false, false])
      · intro hD2
        refine ga_take (i := 0) (ls' := [true, false, false, false, false, false, false, false, false, false, false, false]) rfl (by kernel_rfl) rfl (fun _ _ _ => val_move rfl) rfl rfl rfl ?_
        refine ga_take (i := 1) (ls' := [true, true, false, false, false, false, false, false, false, false, false, false]) rfl (by kernel_rfl) rfl (fun _ _ _ => val_move rfl) rfl rfl rfl ?_
        refine ga_take (i := 2) (ls' := [true, true, true, false, false, false, false, false, false, false, false, false]) rfl (by kernel_rfl) rfl (fun _ _ _ => val_nilCheck rfl) rfl rfl rfl ?_
        refine ga_take (i := 3) (ls' := [true, true, true, true, false, false, false, false, false, false, false, false]) rfl (by kernel_rfl) rfl (fun _ _ _ => val_fieldAddr kfo175_1 rfl) rfl rfl rfl ?_
        refine ga_branch (rs := [4, 5]) (by kernel_rfl) rfl (.cons (ls' := [true, true, true, true, true, false, false, false, false, false, false, false]) rfl rfl ?_ (.cons (ls' := [true, true, true, true, false, true, false, false, false, false, false, false]) rfl rfl ?_ .nil))
        · skip
          refine gs_val (val_load1 kag173 rfl (sees_mem (by repeat (first | exact .head _ | refine .tail _ ?_ | refine List.mem_append_right _ ?_))) rfl) rfl rfl rfl ?_
          refine ga_branch (rs := [5]) (by kernel_rfl) rfl (.cons (ls' := [true, true, true, true, true, true, false, false, false, false, false, false]) rfl rfl ?_ .nil)
          refine gs_val (val_loadA kag70 rfl (sees_mem (by repeat (first | exact .head _ | refine .tail _ ?_ | refine List.mem_append_right _ ?_))) rfl rfl) rfl rfl rfl ?_
          refine gx_env (F := [(0, _), (1, _), (3, _), (4, _), (5, _), (6, _), (7, _), (8, _), (9, _), (10, _), (11, _), (12, _), (13, _), (14, _), (15, _), (16, _), (17, _), (18, _), (19, _), (20, _), (21, _), (22, _), (23, _), (24, _), (25, _), (26, _), (27, _), (28, _), (29, _), (30, _), (31, _), (32, _), (33, _), (34, _), (35, _), (36, _), (37, _), (38, _), (39, _), (40, _), (41, _), (42, _), (43, _), (44, _), (45, _), (46, _), (47, _), (48, _), (49, _), (50, _), (51, _), (57, _), (58, _), (59, _), (60, _), (61, _), (62, _), (63, _), (64, _), (65, _), (66, _), (67, _), (68, _), (69, _), (70, _), (71, _), (72, _), (73, _), (82, _), (83, _), (84, _), (85, _), (86, _), (87, _), (88, _), (89, _), (90, _), (91, _), (92, _)]) (.cons rfl (.cons rfl (.cons rfl (.cons rfl (.cons rfl (.cons rfl (.cons rfl (.cons rfl (.cons rfl (.cons rfl (.cons rfl (.cons rfl (.cons rfl (.cons rfl (.cons rfl (.cons rfl (.cons rfl (.cons rfl (.cons rfl (.cons rfl (.cons rfl (.cons rfl (.cons rfl (.cons rfl (.cons rfl (.cons rfl (.cons rfl (.cons rfl (.cons rfl (.cons rfl (.cons rfl (.cons rfl (.cons rfl (.cons rfl (.cons rfl (.cons rfl (.cons rfl (.cons rfl (.cons rfl (.cons rfl (.cons rfl (.cons rfl (.cons rfl (.cons rfl (.cons rfl (.cons rfl (.cons rfl (.cons rfl (.cons rfl (.cons rfl (.cons rfl (.cons rfl (.cons rfl (.cons rfl (.cons rfl (.cons rfl (.cons rfl (.cons rfl (.cons rfl (.cons rfl (.cons rfl (.cons rfl (.cons rfl (.cons rfl (.cons rfl (.cons rfl (.cons rfl (.cons rfl (.cons rfl (.cons rfl (.cons rfl (.cons rfl (.cons rfl (.cons rfl (.cons rfl (.cons rfl (.cons rfl (.cons rfl (.cons rfl .nil))))))))))))))))))))))))))))))))))))))))))))))))))))))))))))))))))))))))))))))) (gx_perm (by first | exact .refl _ | (repeat (first | exact .refl _ | refine perm_take (by first | exact .head | exact .tail .head | exact .tail (.tail .head) | exact .tail (.tail (.tail .head)) | exact .tail (.tail (.tail (.tail .head))) | exact .tail (.tail (.tail (.tail (.tail .head))))) ?_ | refine perm_takeL (by repeat (first | exact .app | exact .here | apply TakeL.tail | apply TakeL.appr)) ?_ | refine perm_takeX (by repeat (first | exact .cons .head .nil | apply TakeL.tail | apply TakeL.appr)) ?_))) (hD2  True.intro))
        · skip
          refine gs_val (val_loadA kag70 rfl (sees_mem (by repeat (first | exact .head _ | refine .tail _ ?_ | refine List.mem_append_right _ ?_))) rfl rfl) rfl rfl rfl ?_
          refine ga_branch (rs := [4, 6]) (by kernel_rfl) rfl (.cons (ls' := [true, true, true, true, true, true, false, false, false, false, false, false]) rfl rfl ?_ (.cons (ls' := [true, true, true, true, false, true, true, false, false, false, false, false]) rfl rfl ?_ .nil))
          · skip
            refine gs_val (val_load1 kag173 rfl (sees_mem (by repeat (first | exact .head _ | refine .tail _ ?_ | refine List.mem_append_right _ ?_))) rfl) rfl rfl rfl ?_
            refine gx_env (F := [(0, _), (1, _), (3, _), (4, _), (5, _), (6, _), (7, _), (8, _), (9, _), (10, _), (11, _), (12, _), (13, _), (14, _), (15, _), (16, _), (17, _), (18, _), (19, _), (20, _), (21, _), (22, _), (23, _), (24, _), (25, _), (26, _), (27, _), (28, _), (29, _), (30, _), (31, _), (32, _), (33, _), (34, _), (35, _), (36, _), (37, _), (38, _), (39, _), (40, _), (41, _), (42, _), (43, _), (44, _), (45, _), (46, _), (47, _), (48, _), (49, _), (50, _), (51, _), (57, _), (58, _), (59, _), (60, _), (61, _), (62, _), (63, _), (64, _), (65, _), (66, _), (67, _), (68, _), (69, _), (70, _), (71, _), (72, _), (73, _), (82, _), (83, _), (84, _), (85, _), (86, _), (87, _), (88, _), (89, _), (90, _), (91, _), (92, _)]) (.cons rfl (.cons rfl (.cons rfl (.cons rfl (.cons rfl (.cons rfl (.cons rfl (.cons rfl (.cons rfl (.cons rfl (.cons rfl (.cons rfl (.cons rfl (.cons rfl (.cons rfl (.cons rfl (.cons rfl (.cons rfl (.cons rfl (.cons rfl (.cons rfl (.cons rfl (.cons rfl (.cons rfl (.cons rfl (.cons rfl (.cons rfl (.cons rfl (.cons rfl (.cons rfl (.cons rfl (.cons rfl (.cons rfl (.cons rfl (.cons rfl (.cons rfl (.cons rfl (.cons rfl (.cons rfl (.cons rfl (.cons rfl (.cons rfl (.cons rfl (.cons rfl (.cons rfl (.cons rfl (.cons rfl (.cons rfl (.cons rfl (.cons rfl (.cons rfl (.cons rfl (.cons rfl (.cons rfl (.cons rfl (.cons rfl (.cons rfl (.cons rfl (.cons rfl (.cons rfl (.cons rfl (.cons rfl (.cons rfl (.cons rfl (.cons rfl (.cons rfl (.cons rfl (.cons rfl (.cons rfl (.cons rfl (.cons rfl (.cons rfl (.cons rfl (.cons rfl (.cons rfl (.cons rfl (.cons rfl (.cons rfl (.cons rfl .nil))))))))))))))))))))))))))))))))))))))))))))))))))))))))))))))))))))))))))))))) (gx_perm (by first | exact .refl _ | (repeat (first | exact .refl _ | refine perm_take (by first | exact .head | exact .tail .head | exact .tail (.tail .head) | exact .tail (.tail (.tail .head)) | exact .tail (.tail (.tail (.tail .head))) | exact .tail (.tail (.tail (.tail (.tail .head))))) ?_ | refine perm_takeL (by repeat (first | exact .app | exact .here | apply TakeL.tail | apply TakeL.appr)) ?_ | refine perm_takeX (by repeat (first | exact .cons .head .nil | apply TakeL.tail | apply TakeL.appr)) ?_))) (hD2  True.intro))
          · skip
            refine gs_makes (enters kcall123 (.cons rfl .nil)) (apClone_spec h nb ba l.length cap l rfl (by omega)) rfl rfl rfl (row_of_sees (sees_row hpre)) (fun ⟨xb, xc, xN⟩ hx => ?_)
            refine gx_perm (List.perm_append_comm_assoc xN (_ :: _ :: _ :: NS) NB) ?_
            refine ga_branch (rs := [4, 7]) (by kernel_rfl) rfl (.cons (ls' := [true, true, true, true, true, true, true, false, false, false, false, false]) rfl rfl ?_ (.cons (ls' := [true, true, true, true, false, true, true, true, false, false, false, false]) rfl rfl ?_ .nil))
            · skip
              refine gs_val (val_load1 kag173 rfl (sees_mem (by repeat (first | exact .head _ | refine .tail _ ?_ | refine List.mem_append_right _ ?_))) rfl) rfl rfl rfl ?_
              refine gx_env (F := [(0, _), (1, _), (3, _), (4, _), (5, _), (6, _), (7, _), (8, _), (9, _), (10, _), (11, _), (12, _), (13, _), (14, _), (15, _), (16, _), (17, _), (18, _), (19, _), (20, _), (21, _), (22, _), (23, _), (24, _), (25, _), (26, _), (27, _), (28, _), (29, _), (30, _), (31, _), (32, _), (33, _), (34, _), (35, _), (36, _), (37, _), (38, _), (39, _), (40, _), (41, _), (42, _), (43, _), (44, _), (45, _), (46, _), (47, _), (48, _), (49, _), (50, _), (51, _), (52, _), (57, _), (58, _), (59, _), (60, _), (61, _), (62, _), (63, _), (64, _), (65, _), (66, _), (67, _), (68, _), (69, _), (70, _), (71, _), (72, _), (73, _), (82, _), (83, _), (84, _), (85, _), (86, _), (87, _), (88, _), (89, _), (90, _), (91, _), (92, _)]) (.cons rfl (.cons rfl (.cons rfl (.cons rfl (.cons rfl (.cons rfl (.cons rfl (.cons rfl (.cons rfl (.cons rfl (.cons rfl (.cons rfl (.cons rfl (.cons rfl (.cons rfl (.cons rfl (.cons rfl (.cons rfl (.cons rfl (.cons rfl (.cons rfl (.cons rfl (.cons rfl (.cons rfl (.cons rfl (.cons rfl (.cons rfl (.cons rfl (.cons rfl (.cons rfl (.cons rfl (.cons rfl (.cons rfl (.cons rfl (.cons rfl (.cons rfl (.cons rfl (.cons rfl (.cons rfl (.cons rfl (.cons rfl (.cons rfl (.cons rfl (.cons rfl (.cons rfl (.cons rfl (.cons rfl (.cons rfl (.cons rfl (.cons rfl (.cons rfl (.cons rfl (.cons rfl (.cons rfl (.cons rfl (.cons rfl (.cons rfl (.cons rfl (.cons rfl (.cons rfl (.cons rfl (.cons rfl (.cons rfl (.cons rfl (.cons rfl (.cons rfl (.cons rfl (.cons rfl (.cons rfl (.cons rfl (.cons rfl (.cons rfl (.cons rfl (.cons rfl (.cons rfl (.cons rfl (.cons rfl (.cons rfl (.cons rfl (.cons rfl .nil)))))))))))))))))))))))))))))))))))))))))))))))))))))))))))))))))))))))))))))))) (gx_perm (by first | exact .refl _ | (repeat (first | exact .refl _ | refine perm_take (by first | exact .head | exact .tail .head | exact .tail (.tail .head) | exact .tail (.tail (.tail .head)) | exact .tail (.tail (.tail (.tail .head))) | exact .tail (.tail (.tail (.tail (.tail .head))))) ?_ | refine perm_takeL (by repeat (first | exact .app | exact .here | apply TakeL.tail | apply TakeL.appr)) ?_ | refine perm_takeX (by repeat (first | exact .cons .head .nil | apply TakeL.tail | apply TakeL.appr)) ?_))) (hD1 xb xc xN (And.intro hx True.intro)))
            · skip
              refine gs_buildSlice (zs := [.int .u8 0, .int .u8 0, .int .u8 0, .int .u8 0, .int .u8 0, .int .u8 0, .int .u8 0, .int .u8 0, .int .i64 0, .slice none 0 0]) ksl173 kze70 rfl rfl (.cons rfl .nil) (.cons rfl rfl rfl (by simp) (by first | ((with_reducible refine splice_all _ _ ?_); simp; done) | (simp only [splice, stL, digL, List.take_succ_cons, List.take_zero, List.drop_succ_cons, List.drop_zero, List.length_cons, List.length_nil, Nat.reduceAdd, Nat.reduceMul, Nat.zero_add, Nat.zero_mul, List.cons_append, List.nil_append]; exact rfl)) .nil) rfl rfl (fun b53 => ?_)
              refine ga_branch (rs := [4]) (by kernel_rfl) rfl (.cons (ls' := [true, true, true, true, true, true, true, true, false, false, false, false]) rfl rfl ?_ .nil)
              refine gs_val (val_load1 kag173 rfl (sees_mem (by repeat (first | exact .head _ | refine .tail _ ?_ | refine List.mem_append_right _ ?_))) rfl) rfl rfl rfl ?_
              refine gx_env (F := [(0, _), (1, _), (3, _), (4, _), (5, _), (6, _), (7, _), (8, _), (9, _), (10, _), (11, _), (12, _), (13, _), (14, _), (15, _), (16, _), (17, _), (18, _), (19, _), (20, _), (21, _), (22, _), (23, _), (24, _), (25, _), (26, _), (27, _), (28, _), (29, _), (30, _), (31, _), (32, _), (33, _), (34, _), (35, _), (36, _), (37, _), (38, _), (39, _), (40, _), (41, _), (42, _), (43, _), (44, _), (45, _), (46, _), (47, _), (48, _), (49, _), (50, _), (51, _), (52, _), (53, _), (57, _), (58, _), (59, _), (60, _), (61, _), (62, _), (63, _), (64, _), (65, _), (66, _), (67, _), (68, _), (69, _), (70, _), (71, _), (72, _), (73, _), (82, _), (83, _), (84, _), (85, _), (86, _), (87, _), (88, _), (89, _), (90, _), (91, _), (92, _)]) (.cons rfl (.cons rfl (.cons rfl (.cons rfl (.cons rfl (.cons rfl (.cons rfl (.cons rfl (.cons rfl (.cons rfl (.cons rfl (.cons rfl (.cons rfl (.cons rfl (.cons rfl (.cons rfl (.cons rfl (.cons rfl (.cons rfl (.cons rfl (.cons rfl (.cons rfl (.cons rfl (.cons rfl (.cons rfl (.cons rfl (.cons rfl (.cons rfl (.cons rfl (.cons rfl (.cons rfl (.cons rfl (.cons rfl (.cons rfl (.cons rfl (.cons rfl (.cons rfl (.cons rfl (.cons rfl (.cons rfl (.cons rfl (.cons rfl (.cons rfl (.cons rfl (.cons rfl (.cons rfl (.cons rfl (.cons rfl (.cons rfl (.cons rfl (.cons rfl (.cons rfl (.cons rfl (.cons rfl (.cons rfl (.cons rfl (.cons rfl (.cons rfl (.cons rfl (.cons rfl (.cons rfl (.cons rfl (.cons rfl (.cons rfl (.cons rfl (.cons rfl (.cons rfl (.cons rfl (.cons rfl (.cons rfl (.cons rfl (.cons rfl (.cons rfl (.cons rfl (.cons rfl (.cons rfl (.cons rfl (.cons rfl (.cons rfl (.cons rfl (.cons rfl .nil))))))))))))))))))))))))))))))))))))))))))))))))))))))))))))))))))))))))))))))))) (gx_perm (by first | exact .refl _ | (repeat (first | exact .refl _ | refine perm_take (by first | exact .head | exact .tail .head | exact .tail (.tail .head) | exact .tail (.tail (.tail .head)) | exact .tail (.tail (.tail (.tail .head))) | exact .tail (.tail (.tail (.tail (.tail .head))))) ?_ | refine perm_takeL (by repeat (first | exact .app | exact .here | apply TakeL.tail | apply TakeL.appr)) ?_ | refine perm_takeX (by repeat (first | exact .cons .head .nil | apply TakeL.tail | apply TakeL.appr)) ?_))) (hD0 xb xc xN b53 (And.intro hx True.intro)))
      · rintro  _
        refine ga_branch (rs := [6]) (by kernel_rfl) rfl (.cons (ls' := [true, true, true, true, true, true, true, false, false, false, false, false]) rfl rfl ?_ .nil)
        refine gs_makes (enters kcall123 (.cons rfl .nil)) (apClone_spec h nb ba l.length cap l rfl (by omega)) rfl rfl rfl (row_of_sees (sees_row hpre)) (fun ⟨xb, xc, xN⟩ hx => ?_)
        refine gx_perm (List.perm_append_comm_assoc xN (_ :: _ :: _ :: NS) NB) ?_
        refine gx_env (F := [(0, _), (1, _), (3, _), (4, _), (5, _), (6, _), (7, _), (8, _), (9, _), (10, _), (11, _), (12, _), (13, _), (14, _), (15, _), (16, _), (17, _), (18, _), (19, _), (20, _), (21, _), (22, _), (23, _), (24, _), (25, _), (26, _), (27, _), (28, _), (29, _), (30, _), (31, _), (32, _), (33, _), (34, _), (35, _), (36, _), (37, _), (38, _), (39, _), (40, _), (41, _), (42, _), (43, _), (44, _), (45, _), (46, _), (47, _), (48, _), (49, _), (50, _), (51, _), (52, _), (57, _), (58, _), (59, _), (60, _), (61, _), (62, _), (63, _), (64, _), (65, _), (66, _), (67, _), (68, _), (69, _), (70, _), (71, _), (72, _), (73, _), (82, _), (83, _), (84, _), (85, _), (86, _), (87, _), (88, _), (89, _), (90, _), (91, _), (92, _)]) (.cons rfl (.cons rfl (.cons rfl (.cons rfl (.cons rfl (.cons rfl (.cons rfl (.cons rfl (.cons rfl (.cons rfl (.cons rfl (.cons rfl (.cons rfl (.cons rfl (.cons rfl (.cons rfl (.cons rfl (.cons rfl (.cons rfl (.cons rfl (.cons rfl (.cons rfl (.cons rfl (.cons rfl (.cons rfl (.cons rfl (.cons rfl (.cons rfl (.cons rfl (.cons rfl (.cons rfl (.cons rfl (.cons rfl (.cons rfl (.cons rfl (.cons rfl (.cons rfl (.cons rfl (.cons rfl (.cons rfl (.cons rfl (.cons rfl (.cons rfl (.cons rfl (.cons rfl (.cons rfl (.cons rfl (.cons rfl (.cons rfl (.cons rfl (.cons rfl (.cons rfl (.cons rfl (.cons rfl (.cons rfl (.cons rfl (.cons rfl (.cons rfl (.cons rfl (.cons rfl (.cons rfl (.cons rfl (.cons rfl (.cons rfl (.cons rfl (.cons rfl (.cons rfl (.cons rfl (.cons rfl (.cons rfl (.cons rfl (.cons rfl (.cons rfl (.cons rfl (.cons rfl (.cons rfl (.cons rfl (.cons rfl (.cons rfl (.cons rfl .nil)))))))))))))))))))))))))))))))))))))))))))))))))))))))))))))))))))))))))))))))) (gx_perm (by first | exact .refl _ | (repeat (first | exact .refl _ | refine perm_take (by first | exact .head | exact .tail .head | exact .tail (.tail .head) | exact .tail (.tail (.tail .head)) | exact .tail (.tail (.tail (.tail .head))) | exact .tail (.tail (.tail (.tail (.tail .head))))) ?_ | refine perm_takeL (by repeat (first | exact .app | exact .here | apply TakeL.tail | apply TakeL.appr)) ?_ | refine perm_takeX (by repeat (first | exact .cons .head .nil | apply TakeL.tail | apply TakeL.appr)) ?_))) (hD1 xb xc xN (And.intro hx True.intro)))
    · rintro xb xc xN ⟨hx, _⟩
      refine ga_branch (rs := [7]) (by kernel_rfl) rfl (.cons (ls' := [true, true, true, true, true, true, true, true, false, false, false, false]) rfl rfl ?_ .nil)
      refine gs_buildSlice (zs := [.int .u8 0, .int .u8 0, .int .u8 0, .int .u8 0, .int .u8 0, .int .u8 0, .int .u8 0, .int .u8 0, .int .i64 0, .slice none 0 0]) ksl173 kze70 rfl rfl (.cons rfl .nil) (.cons rfl rfl rfl (by simp) (by first | ((with_reducible refine splice_all _ _ ?_); simp; done) | (simp only [splice, stL, digL, List.take_succ_cons, List.take_zero, List.drop_succ_cons, List.drop_zero, List.length_cons, List.length_nil, Nat.reduceAdd, Nat.reduceMul, Nat.zero_add, Nat.zero_mul, List.cons_append, List.nil_append]; exact rfl)) .nil) rfl rfl (fun b53 => ?_)
      refine gx_env (F := [(0, _), (1, _), (3, _), (4, _), (5, _), (6, _), (7, _), (8, _), (9, _), (10, _), (11, _), (12, _), (13, _), (14, _), (15, _), (16, _), (17, _), (18, _), (19, _), (20, _), (21, _), (22, _), (23, _), (24, _), (25, _), (26, _), (27, _), (28, _), (29, _), (30, _), (31, _), (32, _), (33, _), (34, _), (35, _), (36, _), (37, _), (38, _), (39, _), (40, _), (41, _), (42, _), (43, _), (44, _), (45, _), (46, _), (47, _), (48, _), (49, _), (50, _), (51, _), (52, _), (53, _), (57, _), (58, _), (59, _), (60, _), (61, _), (62, _), (63, _), (64, _), (65, _), (66, _), (67, _), (68, _), (69, _), (70, _), (71, _), (72, _), (73, _), (82, _), (83, _), (84, _), (85, _), (86, _), (87, _), (88, _), (89, _), (90, _), (91, _), (92, _)]) (.cons rfl (.cons rfl (.cons rfl (.cons rfl (.cons rfl (.cons rfl (.cons rfl (.cons rfl (.cons rfl (.cons rfl (.cons rfl (.cons rfl (.cons rfl (.cons rfl (.cons rfl (.cons rfl (.cons rfl (.cons rfl (.cons rfl (.cons rfl (.cons rfl (.cons rfl (.cons rfl (.cons rfl (.cons rfl (.cons rfl (.cons rfl (.cons rfl (.cons rfl (.cons rfl (.cons rfl (.cons rfl (.cons rfl (.cons rfl (.cons rfl (.cons rfl (.cons rfl (.cons rfl (.cons rfl (.cons rfl (.cons rfl (.cons rfl (.cons rfl (.cons rfl (.cons rfl (.cons rfl (.cons rfl (.cons rfl (.cons rfl (.cons rfl (.cons rfl (.cons rfl (.cons rfl (.cons rfl (.cons rfl (.cons rfl (.cons rfl (.cons rfl (.cons rfl (.cons rfl (.cons rfl (.cons rfl (.cons rfl (.cons rfl (.cons rfl (.cons rfl (.cons rfl (.cons rfl (.cons rfl (.cons rfl (.cons rfl (.cons rfl (.cons rfl (.cons rfl (.cons rfl (.cons rfl (.cons rfl (.cons rfl (.cons rfl (.cons rfl (.cons rfl .nil))))))))))))))))))))))))))))))))))))))))))))))))))))))))))))))))))))))))))))))))) (gx_perm (by first | exact .refl _ | (repeat (first | exact .refl _ | refine perm_take (by first | exact .head | exact .tail .head | exact .tail (.tail .head) | exact .tail (.tail (.tail .head)) | exact .tail (.tail (.tail (.tail .head))) | exact .tail (.tail (.tail (.tail (.tail .head))))) ?_ | refine perm_takeL (by repeat (first | exact .app | exact .here | apply TakeL.tail | apply TakeL.appr)) ?_ | refine perm_takeX (by repeat (first | exact .cons .head .nil | apply TakeL.tail | apply TakeL.appr)) ?_))) (hD0 xb xc xN b53 (And.intro hx True.intro)))
  · rintro xb xc xN b53 ⟨hx, _⟩
    refine ga_branch (rs := [8]) (by kernel_rfl) rfl (.cons (ls' := [true, true, true, true, true, true, true, true, true, false, false, false]) rfl rfl ?_ .nil)
    refine gs_append ksl173 kze70 rfl rfl rfl rfl rfl rfl (htw.own) (fun _ => by first | exact .here | exact .headR | exact .app | exact .tail .here | exact .tail .headR | exact .tail .app | exact .tail (.tail .here) | exact .tail (.tail .headR) | exact .tail (.tail .app) | exact .tail (.tail (.tail .here)) | exact .tail (.tail (.tail .headR)) | exact .tail (.tail (.tail .app)) | exact .tail (.tail (.tail (.tail .here))) | exact .tail (.tail (.tail (.tail .headR))) | exact .tail (.tail (.tail (.tail .app))) | exact .tail (.tail (.tail (.tail (.tail .here)))) | exact .tail (.tail (.tail (.tail (.tail .headR)))) | exact .tail (.tail (.tail (.tail (.tail .app)))) | exact .appr .here | exact .appr .headR | exact .appr .app | exact .tail (.appr .here) | exact .tail (.appr .headR) | exact .tail (.appr .app) | exact .tail (.tail (.appr .here)) | exact .tail (.tail (.appr .headR)) | exact .tail (.tail (.appr .app)) | exact .appr (.tail .here) | exact .appr (.tail .headR) | exact .appr (.tail .app) | exact .appr (.tail (.tail .here)) | exact .appr (.tail (.tail .headR)) | exact .appr (.tail (.tail .app)) | exact .appr (.appr .here) | exact .appr (.appr .headR) | exact .appr (.appr .app) | exact .tail (.appr (.appr .here)) | exact .tail (.appr (.appr .headR)) | exact .tail (.appr (.appr .app)) | exact .appr (.appr (.tail .here)) | exact .appr (.appr (.tail .headR)) | exact .appr (.appr (.tail .app)) | exact .appr (.appr (.appr .here)) | exact .appr (.appr (.appr .headR)) | exact .appr (.appr (.appr .app))) (brings_slice ksl173 (sees_all (by repeat (first | exact .head _ | refine .tail _ ?_ | refine List.mem_append_right _ ?_))) rfl (ap_one (⟨h, nb, l, xb, xc⟩ : Am))) (by omega) (fun ba54 c54 N54 hown54 => ?_)
    refine ga_take (i := 9) (ls' := [true, true, true, true, true, true, true, true, true, true, false, false]) rfl (by kernel_rfl) rfl (fun _ _ _ => val_nilCheck rfl) rfl rfl rfl ?_
    refine ga_take (i := 10) (ls' := [true, true, true, true, true, true, true, true, true, true, true, false]) rfl (by kernel_rfl) rfl (fun _ _ _ => val_fieldAddr kfo175_1 rfl) rfl rfl rfl ?_
    refine ga_branch (rs := [11]) (by kernel_rfl) rfl (.cons (ls' := [true, true, true, true, true, true, true, true, true, true, true, true]) rfl rfl ?_ .nil)
    refine gs_store ksz173 rfl rfl rfl rfl rfl rfl (by first | exact .head | exact .tail .head | exact .tail (.tail .head) | exact .tail (.tail (.tail .head)) | exact .tail (.tail (.tail (.tail .head))) | exact .tail (.tail (.tail (.tail (.tail .head))))) (by simp) (by first | ((with_reducible refine splice_all _ _ ?_); simp; done) | (simp only [splice, stL, digL, List.take_succ_cons, List.take_zero, List.drop_succ_cons, List.drop_zero, List.length_cons, List.length_nil, Nat.reduceAdd, Nat.reduceMul, Nat.zero_add, Nat.zero_mul, List.cons_append, List.nil_append]; exact rfl)) ?_
    refine ga_done (by kernel_rfl) ?_
    refine gk_block ?_
    refine gk_seq ?_
    refine gc_seq ?_
    refine gc_region ?_
    refine gl_cons (gs_val (val_assign rfl) rfl rfl rfl ?_)
    refine gl_nil ?_
    refine gk_seq ?_
    refine gc_ret ?_
    refine gk_ret rfl (resv_tmp rfl .nil) (.cons _ (.cons _ (List.Sublist.refl _))) ?_
    exact ⟨_, ⟨ml ++ [(⟨h, nb, l, xb, xc⟩ : Am)], ba54, c54, mb, clk + 1, _, N54, xN ++ NB, by rw [List.map_append]; rfl, htw.add clk hix hx.has hx.cap hown54, by rw [List.length_append]; rfl⟩, rfl, rfl⟩

/-- (*baize/tower.Tower).See -/
theorem see_nil (d : BitVec 64) (base : Int) : Pure Try.prog 40 ([.pointer none, Dig d, I64 base]).toArray (fun _ => True) (.tuple #[nilS, .bool false]) := by
  refine spec_walk (n := 55) Try.func40 rfl rfl rfl (fun w0 hpre => ?_)
  refine gc_seq ?_
  refine gc_region ?_
  refine gl_cons (gs_box rfl rfl rfl rfl (fun b4 => ?_))
  refine gl_cons (gs_val (val_assign rfl) rfl rfl rfl ?_)
  refine gl_cons (gs_val (val_assign rfl) rfl rfl rfl ?_)
  refine gl_nil ?_
  refine gk_seq ?_
  refine gc_seq ?_
  refine gc_seq ?_
  refine gc_region ?_
  refine gl_cons (gs_val (val_move rfl) rfl rfl rfl ?_)
  refine gl_cons (gs_val (val_eqlNil kun66 rfl rfl) rfl rfl rfl ?_)
  refine gl_nil ?_
  refine gk_seq ?_
  refine gc_true rfl ?_
  refine gc_seq ?_
  refine gc_region ?_
  refine gl_cons (gs_val (val_assign rfl) rfl rfl rfl ?_)
  refine gl_cons (gs_val (val_assign rfl) rfl rfl rfl ?_)
  refine gl_nil ?_
  refine gk_seq ?_
  refine gc_ret ?_
  refine gk_seq_ret ?_
  refine gk_ret rfl (resv_tmp rfl (resv_tmp rfl .nil)) (List.nil_sublist _) ?_
  exact ⟨rfl, rfl⟩

/-- (*baize/tower.Tower).See -/
theorem see_none (bt room : Nat) (ml : List Am) (la : Option Addr) (c mb clk : Nat) (rows : List MRow) (NS NB : List Ent) (htw : TWm 70 ml la c rows NS NB) (d : BitVec 64) (base : Int) (hix : ixA (hintW d) (ml.map Am.app) = none) : Turns Try.prog 40 ([.pointer (some ⟨bt, 0, none⟩), Dig d, I64 base]).toArray (fun _ => True) (TWL 175 bt room la ml.length c mb clk rows NS NB) (fun _ : Unit => True) (fun _ => .tuple #[nilS, .bool false]) (fun _ => TWL 175 bt room la ml.length c mb clk rows NS NB) := by
  refine spec_walk (n := 55) Try.func40 rfl rfl rfl (fun w0 hpre => ?_)
  refine gc_seq ?_
  refine gc_region ?_
  refine gl_cons (gs_box rfl rfl rfl rfl (fun b4 => ?_))
  refine gl_cons (gs_val (val_assign rfl) rfl rfl rfl ?_)
  refine gl_cons (gs_val (val_assign rfl) rfl rfl rfl ?_)
  refine gl_nil ?_
  refine gk_seq ?_
  refine gc_seq ?_
  refine gc_seq ?_
  refine gc_region ?_
  refine gl_cons (gs_val (val_move rfl) rfl rfl rfl ?_)
  refine gl_cons (gs_val (val_eqlNil kun66 rfl rfl) rfl rfl rfl ?_)
  refine gl_nil ?_
  refine gk_seq ?_
  refine gc_false rfl ?_
  refine gc_skip ?_
  refine gk_seq ?_
  refine gc_seq ?_
  refine gc_drawAll kmixed (by kernel_rfl) ?_
  refine gq_val (val_move rfl) rfl rfl rfl ?_
  refine gq_val (val_nilCheck rfl) rfl rfl rfl ?_
  refine gq_val (val_fieldAddr kfo175_2 rfl) rfl rfl rfl ?_
  refine gq_val (val_load1 kag172 rfl (sees_mem (by repeat (first | exact .head _ | refine .tail _ ?_ | refine List.mem_append_right _ ?_))) rfl) rfl rfl rfl ?_
  refine gq_val (val_loadA kag31 rfl (sees_mem (by repeat (first | exact .head _ | refine .tail _ ?_ | refine List.mem_append_right _ ?_))) rfl rfl) rfl rfl rfl ?_
  refine gq_pure (enters kcall49 (.cons rfl .nil)) (hint_spec d) rfl rfl rfl (fun _ _ => trivial) ?_
  refine gq_val (val_cast (v := .tuple #[I64 0, .bool false]) (val_lookup2 (l := rows) (clk := clk) (d := hintW d) (by kernel_rfl : mapT Try.prog 172 = some (31, 3)) kdig31 kze3 rfl rfl rfl (knows_mem (by repeat (first | exact .head _ | refine .tail _ ?_ | refine List.mem_append_right _ ?_)))) (look_tup_none (htw.lost hix))) rfl rfl rfl ?_
  refine gq_val (val_move rfl) rfl rfl rfl ?_
  refine gq_val (val_extract rfl rfl) rfl rfl rfl ?_
  refine gq_val (val_extract rfl rfl) rfl rfl rfl ?_
  refine gq_val (val_assign rfl) rfl rfl rfl ?_
  refine gq_val (val_assign rfl) rfl rfl rfl ?_
  refine gq_nil ?_
  refine gl_nil ?_
  refine gk_seq ?_
  refine gc_seq ?_
  refine gc_seq ?_
  refine gc_region ?_
  refine gl_cons (gs_val (val_move rfl) rfl rfl rfl ?_)
  refine gl_cons (gs_val (val_not rfl) rfl rfl rfl ?_)
  refine gl_cons (gs_val (val_move rfl) rfl rfl rfl ?_)
  refine gl_cons (gs_skip rfl rfl rfl ?_)
  refine gl_cons (gs_skip rfl rfl rfl ?_)
  refine gl_cons (gs_skip rfl rfl rfl ?_)
  refine gl_cons (gs_skip rfl rfl rfl ?_)
  refine gl_cons (gs_skip rfl rfl rfl ?_)
  refine gl_cons (gs_skip rfl rfl rfl ?_)
  refine gl_cons (gs_skip rfl rfl rfl ?_)
  refine gl_cons (gs_skip rfl rfl rfl ?_)
  refine gl_cons (gs_skip rfl rfl rfl ?_)
  refine gl_cons (gs_skip rfl rfl rfl ?_)
  refine gl_cons (gs_val (val_pick_t rfl rfl) rfl rfl rfl ?_)
  refine gl_nil ?_
  refine gk_seq ?_
  refine gc_true rfl ?_
  refine gc_seq ?_
  refine gc_region ?_
  refine gl_cons (gs_val (val_assign rfl) rfl rfl rfl ?_)
  refine gl_cons (gs_val (val_assign rfl) rfl rfl rfl ?_)
  refine gl_nil ?_
  refine gk_seq ?_
  refine gc_ret ?_
  refine gk_seq_ret ?_
  refine gk_ret rfl (resv_tmp rfl (resv_tmp rfl .nil)) (.cons _ (List.Sublist.refl _)) ?_
  exact ⟨(), trivial, rfl, rfl⟩

/-- (*baize/tower.Tower).See -/
theorem see_low (bt room : Nat) (ml : List Am) (lb : Nat) (c mb clk : Nat) (rows : List MRow) (NS NB : List Ent) (htw : TWm 70 ml (some ⟨lb, 0, none⟩) c rows NS NB) (d : BitVec 64) (base : Int) (i : Nat) (hil : i < ml.length) (hix : ixA (hintW d) (ml.map Am.app) = some i) (ho : ml[i].nb ≤ base) : Turns Try.prog 40 ([.pointer (some ⟨bt, 0, none⟩), Dig d, I64 base]).toArray (fun _ => True) (TWL 175 bt room (some ⟨lb, 0, none⟩) ml.length c mb clk rows NS NB) (fun _ : Unit => True) (fun _ => .tuple #[nilS, .bool false]) (fun _ => TWL 175 bt room (some ⟨lb, 0, none⟩) ml.length c mb clk rows NS NB) := by
  refine spec_walk (n := 55) Try.func40 rfl rfl rfl (fun w0 hpre => ?_)
  refine gc_seq ?_
  refine gc_region ?_
  refine gl_cons (gs_box rfl rfl rfl rfl (fun b4 => ?_))
  refine gl_cons (gs_val (val_assign rfl) rfl rfl rfl ?_)
  refine gl_cons (gs_val (val_assign rfl) rfl rfl rfl ?_)
  refine gl_nil ?_
  refine gk_seq ?_
  refine gc_seq ?_
  refine gc_seq ?_
  refine gc_region ?_
  refine gl_cons (gs_val (val_move rfl) rfl rfl rfl ?_)
  refine gl_cons (gs_val (val_eqlNil kun66 rfl rfl) rfl rfl rfl ?_)
  refine gl_nil ?_
  refine gk_seq ?_
  refine gc_false rfl ?_
  refine gc_skip ?_
  refine gk_seq ?_
  refine gc_seq ?_
  refine gc_drawAll kmixed (by kernel_rfl) ?_
  refine gq_val (val_move rfl) rfl rfl rfl ?_
  refine gq_val (val_nilCheck rfl) rfl rfl rfl ?_
  refine gq_val (val_fieldAddr kfo175_2 rfl) rfl rfl rfl ?_
  refine gq_val (val_load1 kag172 rfl (sees_mem (by repeat (first | exact .head _ | refine .tail _ ?_ | refine List.mem_append_right _ ?_))) rfl) rfl rfl rfl ?_
  refine gq_val (val_loadA kag31 rfl (sees_mem (by repeat (first | exact .head _ | refine .tail _ ?_ | refine List.mem_append_right _ ?_))) rfl rfl) rfl rfl rfl ?_
  refine gq_pure (enters kcall49 (.cons rfl .nil)) (hint_spec d) rfl rfl rfl (fun _ _ => trivial) ?_
  refine gq_val (val_cast (v := .tuple #[NV i, .bool true]) (val_lookup2 (l := rows) (clk := clk) (d := hintW d) (by kernel_rfl : mapT Try.prog 172 = some (31, 3)) kdig31 kze3 rfl rfl rfl (knows_mem (by repeat (first | exact .head _ | refine .tail _ ?_ | refine List.mem_append_right _ ?_)))) (look_tup_some (htw.look hix))) rfl rfl rfl ?_
  refine gq_val (val_move rfl) rfl rfl rfl ?_
  refine gq_val (val_extract rfl rfl) rfl rfl rfl ?_
  refine gq_val (val_extract rfl rfl) rfl rfl rfl ?_
  refine gq_val (val_assign rfl) rfl rfl rfl ?_
  refine gq_val (val_assign rfl) rfl rfl rfl ?_
  refine gq_nil ?_
  refine gl_nil ?_
  refine gk_seq ?_
  refine gc_seq ?_
  refine gc_seq ?_
  refine gc_region ?_
  refine gl_cons (gs_val (val_move rfl) rfl rfl rfl ?_)
  refine gl_cons (gs_val (val_not rfl) rfl rfl rfl ?_)
  refine gl_cons (gs_val (val_move rfl) rfl rfl rfl ?_)
  refine gl_cons (gs_val (val_move rfl) rfl rfl rfl ?_)
  refine gl_cons (gs_val (val_nilCheck rfl) rfl rfl rfl ?_)
  refine gl_cons (gs_val (val_fieldAddr kfo175_1 rfl) rfl rfl rfl ?_)
  refine gl_cons (gs_val (val_load1 kag173 rfl (sees_mem (by repeat (first | exact .head _ | refine .tail _ ?_ | refine List.mem_append_right _ ?_))) rfl) rfl rfl rfl ?_)
  refine gl_cons (gs_val (val_move rfl) rfl rfl rfl ?_)
  refine gl_cons (gs_val (val_indexRow (m := i) ksl173 rfl rfl rfl hil (htw.own.look (by repeat (first | exact .here | exact .headR | exact .app | refine .tail ?_ | refine .appr ?_))) hil) rfl rfl rfl ?_)
  refine gl_cons (gs_val (val_fieldAddr kfo70_1 rfl) rfl rfl rfl ?_)
  refine gl_cons (gs_val (val_load1 kag3 rfl ((htw.own.look (by repeat (first | exact .here | exact .headR | exact .app | refine .tail ?_ | refine .appr ?_))).rowAt hil 8) rfl) rfl rfl rfl ?_)
  refine gl_cons (gs_val (val_move rfl) rfl rfl rfl ?_)
  refine gl_cons (gs_val (val_yes (val_leq rfl rfl) (by omega)) rfl rfl rfl ?_)
  refine gl_cons (gs_val (val_pick_f rfl rfl) rfl rfl rfl ?_)
  refine gl_nil ?_
  refine gk_seq ?_
  refine gc_true rfl ?_
  refine gc_seq ?_
  refine gc_region ?_
  refine gl_cons (gs_val (val_assign rfl) rfl rfl rfl ?_)
  refine gl_cons (gs_val (val_assign rfl) rfl rfl rfl ?_)
  refine gl_nil ?_
  refine gk_seq ?_
  refine gc_ret ?_
  refine gk_seq_ret ?_
  refine gk_ret rfl (resv_tmp rfl (resv_tmp rfl .nil)) (.cons _ (List.Sublist.refl _)) ?_
  exact ⟨(), trivial, rfl, rfl⟩

/-- (*baize/tower.Tower).See -/
theorem see_bad (bt room : Nat) (ml : List Am) (lb : Nat) (c mb clk : Nat) (rows : List MRow) (NS NB : List Ent) (htw : TWm 70 ml (some ⟨lb, 0, none⟩) c rows NS NB) (d : BitVec 64) (base : Int) (i : Nat) (hil : i < ml.length) (hix : ixA (hintW d) (ml.map Am.app) = some i) (ho : base < ml[i].nb) (hb : ml[i].bl.length ≤ 1048576) (he : ¬ openE (keyW d) ml[i].bl = 0) : Turns Try.prog 40 ([.pointer (some ⟨bt, 0, none⟩), Dig d, I64 base]).toArray (fun _ => True) (TWL 175 bt room (some ⟨lb, 0, none⟩) ml.length c mb clk rows NS NB) (fun _ : Unit => True) (fun _ => .tuple #[nilS, .bool false]) (fun _ => TWL 175 bt room (some ⟨lb, 0, none⟩) ml.length c mb clk rows NS NB) := by
  obtain ⟨hbox, hcap⟩ := htw.box _ (List.getElem_mem hil)
  refine spec_walk (n := 55) Try.func40 rfl rfl rfl (fun w0 hpre => ?_)
  refine gc_seq ?_
  refine gc_region ?_
  refine gl_cons (gs_box rfl rfl rfl rfl (fun b4 => ?_))
  refine gl_cons (gs_val (val_assign rfl) rfl rfl rfl ?_)
  refine gl_cons (gs_val (val_assign rfl) rfl rfl rfl ?_)
  refine gl_nil ?_
  refine gk_seq ?_
  refine gc_seq ?_
  refine gc_seq ?_
  refine gc_region ?_
  refine gl_cons (gs_val (val_move rfl) rfl rfl rfl ?_)
  refine gl_cons (gs_val (val_eqlNil kun66 rfl rfl) rfl rfl rfl ?_)
  refine gl_nil ?_
  refine gk_seq ?_
  refine gc_false rfl ?_
  refine gc_skip ?_
  refine gk_seq ?_
  refine gc_seq ?_
  refine gc_drawAll kmixed (by kernel_rfl) ?_
  refine gq_val (val_move rfl) rfl rfl rfl ?_
  refine gq_val (val_nilCheck rfl) rfl rfl rfl ?_
  refine gq_val (val_fieldAddr kfo175_2 rfl) rfl rfl rfl ?_
  refine gq_val (val_load1 kag172 rfl (sees_mem (by repeat (first | exact .head _ | refine .tail _ ?_ | refine List.mem_append_right _ ?_))) rfl) rfl rfl rfl ?_
  refine gq_val (val_loadA kag31 rfl (sees_mem (by repeat (first | exact .head _ | refine .tail _ ?_ | refine List.mem_append_right _ ?_))) rfl rfl) rfl rfl rfl ?_
  refine gq_pure (enters kcall49 (.cons rfl .nil)) (hint_spec d) rfl rfl rfl (fun _ _ => trivial) ?_
  refine gq_val (val_cast (v := .tuple #[NV i, .bool true]) (val_lookup2 (l := rows) (clk := clk) (d := hintW d) (by kernel_rfl : mapT Try.prog 172 = some (31, 3)) kdig31 kze3 rfl rfl rfl (knows_mem (by repeat (first | exact .head _ | refine .tail _ ?_ | refine List.mem_append_right _ ?_)))) (look_tup_some (htw.look hix))) rfl rfl rfl ?_
  refine gq_val (val_move rfl) rfl rfl rfl ?_
  refine gq_val (val_extract rfl rfl) rfl rfl rfl ?_
  refine gq_val (val_extract rfl rfl) rfl rfl rfl ?_
  refine gq_val (val_assign rfl) rfl rfl rfl ?_
  refine gq_val (val_assign rfl) rfl rfl rfl ?_
  refine gq_nil ?_
  refine gl_nil ?_
  refine gk_seq ?_
  refine gc_seq ?_
  refine gc_seq ?_
  refine gc_region ?_
  refine gl_cons (gs_val (val_move rfl) rfl rfl rfl ?_)
  refine gl_cons (gs_val (val_not rfl) rfl rfl rfl ?_)
  refine gl_cons (gs_val (val_move rfl) rfl rfl rfl ?_)
  refine gl_cons (gs_val (val_move rfl) rfl rfl rfl ?_)
  refine gl_cons (gs_val (val_nilCheck rfl) rfl rfl rfl ?_)
  refine gl_cons (gs_val (val_fieldAddr kfo175_1 rfl) rfl rfl rfl ?_)
  refine gl_cons (gs_val (val_load1 kag173 rfl (sees_mem (by repeat (first | exact .head _ | refine .tail _ ?_ | refine List.mem_append_right _ ?_))) rfl) rfl rfl rfl ?_)
  refine gl_cons (gs_val (val_move rfl) rfl rfl rfl ?_)
  refine gl_cons (gs_val (val_indexRow (m := i) ksl173 rfl rfl rfl hil (htw.own.look (by repeat (first | exact .here | exact .headR | exact .app | refine .tail ?_ | refine .appr ?_))) hil) rfl rfl rfl ?_)
  refine gl_cons (gs_val (val_fieldAddr kfo70_1 rfl) rfl rfl rfl ?_)
  refine gl_cons (gs_val (val_load1 kag3 rfl ((htw.own.look (by repeat (first | exact .here | exact .headR | exact .app | refine .tail ?_ | refine .appr ?_))).rowAt hil 8) rfl) rfl rfl rfl ?_)
  refine gl_cons (gs_val (val_move rfl) rfl rfl rfl ?_)
  refine gl_cons (gs_val (val_no (val_leq rfl rfl) (by omega)) rfl rfl rfl ?_)
  refine gl_cons (gs_val (val_pick_f rfl rfl) rfl rfl rfl ?_)
  refine gl_nil ?_
  refine gk_seq ?_
  refine gc_false rfl ?_
  refine gc_skip ?_
  refine gk_seq ?_
  refine gc_seq ?_
  refine ga_start (m := 16) (ls := [false, false, false, false, false, false, false, false, false, false, false, false, false, false, false, false]) kmixed rfl rfl ?_
  apply share0  (m' := 6) (ls' := [true, true, true, true, true, true, true, true, true, true, false, false, false, false, false, false])
  · intro hD0
    apply share0  (m' := 7) (ls' := [true, true, true, true, true, true, true, true, true, false, false, false, false, false, false, false])
    · intro hD1
      apply share0  (m' := 7) (ls' := [true, false, true, true, true, true, true, true, true, true, false, false, false, false, false, false])
      · intro hD2
        apply share0  (m' := 8) (ls' := [true, false, true, true, true, true, true, true, true, false, false, false, false, false, false, false])
        · intro hD3
          apply share0  (m' := 9) (ls' := [true, true, true, true, true, true, true, false, false, false, false, false, false, false, false, false])
          · intro hD4
            apply share0  (m' := 10) (ls' := [true, false, true, true, true, true, true, false, false, false, false, false, false, false, false, false])
            · intro hD5
              refine ga_take (i := 2) (ls' := [false, false, true, false, false, false, false, false, false, false, false, false, false, false, false, false]) rfl (by kernel_rfl) rfl (fun _ _ _ => val_move rfl) rfl rfl rfl ?_
              refine ga_take (i := 3) (ls' := [false, false, true, true, false, false, false, false, false, false, false, false, false, false, false, false]) rfl (by kernel_rfl) rfl (fun _ _ _ => val_nilCheck rfl) rfl rfl rfl ?_
              refine ga_take (i := 4) (ls' := [false, false, true, true, true, false, false, false, false, false, false, false, false, false, false, false]) rfl (by kernel_rfl) rfl (fun _ _ _ => val_fieldAddr kfo175_1 rfl) rfl rfl rfl ?_
              refine ga_take (i := 6) (ls' := [false, false, true, true, true, false, true, false, false, false, false, false, false, false, false, false]) rfl (by kernel_rfl) rfl (fun _ _ _ => val_move rfl) rfl rfl rfl ?_
              refine ga_branch (rs := [0, 5]) (by kernel_rfl) rfl (.cons (ls' := [true, false, true, true, true, false, true, false, false, false, false, false, false, false, false, false]) rfl rfl ?_ (.cons (ls' := [false, false, true, true, true, true, true, false, false, false, false, false, false, false, false, false]) rfl rfl ?_ .nil))
              · skip
                refine gs_val (val_loadA kag31 rfl (sees_mem (by repeat (first | exact .head _ | refine .tail _ ?_ | refine List.mem_append_right _ ?_))) rfl rfl) rfl rfl rfl ?_
                refine ga_branch (rs := [1, 5]) (by kernel_rfl) rfl (.cons (ls' := [true, true, true, true, true, false, true, false, false, false, false, false, false, false, false, false]) rfl rfl ?_ (.cons (ls' := [true, false, true, true, true, true, true, false, false, false, false, false, false, false, false, false]) rfl rfl ?_ .nil))
                · skip
                  refine gs_pure (enters kcall121 (.cons rfl .nil)) (key_spec d) rfl rfl rfl (fun _ _ => trivial) ?_
                  refine ga_branch (rs := [5]) (by kernel_rfl) rfl (.cons (ls' := [true, true, true, true, true, true, true, false, false, false, false, false, false, false, false, false]) rfl rfl ?_ .nil)
                  refine gs_val (val_load1 kag173 rfl (sees_mem (by repeat (first | exact .head _ | refine .tail _ ?_ | refine List.mem_append_right _ ?_))) rfl) rfl rfl rfl ?_
                  refine gx_env (F := [(0, _), (1, _), (2, _), (4, _), (6, _), (7, _), (8, _), (9, _), (12, _), (13, _), (14, _), (15, _), (16, _), (17, _), (18, _), (19, _), (20, _), (21, _), (22, _), (23, _), (24, _), (25, _), (26, _), (27, _), (28, _), (29, _), (30, _), (31, _), (32, _), (33, _), (34, _), (35, _), (36, _), (37, _), (39, _), (40, _), (41, _), (42, _), (43, _), (44, _), (45, _)]) (.cons rfl (.cons rfl (.cons rfl (.cons rfl (.cons rfl (.cons rfl (.cons rfl (.cons rfl (.cons rfl (.cons rfl (.cons rfl (.cons rfl (.cons rfl (.cons rfl (.cons rfl (.cons rfl (.cons rfl (.cons rfl (.cons rfl (.cons rfl (.cons rfl (.cons rfl (.cons rfl (.cons rfl (.cons rfl (.cons rfl (.cons rfl (.cons rfl (.cons rfl (.cons rfl (.cons rfl (.cons rfl (.cons rfl (.cons rfl (.cons rfl (.cons rfl (.cons rfl (.cons rfl (.cons rfl (.cons rfl (.cons rfl .nil))))))))))))))))))))))))))))))))))))))))) (gx_perm (by first | exact .refl _ | (repeat (first | exact .refl _ | refine perm_take (by first | exact .head | exact .tail .head | exact .tail (.tail .head) | exact .tail (.tail (.tail .head)) | exact .tail (.tail (.tail (.tail .head))) | exact .tail (.tail (.tail (.tail (.tail .head))))) ?_ | refine perm_takeL (by repeat (first | exact .app | exact .here | apply TakeL.tail | apply TakeL.appr)) ?_ | refine perm_takeX (by repeat (first | exact .cons .head .nil | apply TakeL.tail | apply TakeL.appr)) ?_))) (hD4  True.intro))
                · skip
                  refine gs_val (val_load1 kag173 rfl (sees_mem (by repeat (first | exact .head _ | refine .tail _ ?_ | refine List.mem_append_right _ ?_))) rfl) rfl rfl rfl ?_
                  refine gx_env (F := [(0, _), (1, _), (2, _), (4, _), (6, _), (7, _), (8, _), (9, _), (12, _), (13, _), (14, _), (15, _), (16, _), (17, _), (18, _), (19, _), (20, _), (21, _), (22, _), (23, _), (24, _), (25, _), (26, _), (27, _), (28, _), (29, _), (30, _), (31, _), (32, _), (33, _), (34, _), (35, _), (36, _), (37, _), (39, _), (41, _), (42, _), (43, _), (44, _), (45, _)]) (.cons rfl (.cons rfl (.cons rfl (.cons rfl (.cons rfl (.cons rfl (.cons rfl (.cons rfl (.cons rfl (.cons rfl (.cons rfl (.cons rfl (.cons rfl (.cons rfl (.cons rfl (.cons rfl (.cons rfl (.cons rfl (.cons rfl (.cons rfl (.cons rfl (.cons rfl (.cons rfl (.cons rfl (.cons rfl (.cons rfl (.cons rfl (.cons rfl (.cons rfl (.cons rfl (.cons rfl (.cons rfl (.cons rfl (.cons rfl (.cons rfl (.cons rfl (.cons rfl (.cons rfl (.cons rfl (.cons rfl .nil)))))))))))))))))))))))))))))))))))))))) (gx_perm (by first | exact .refl _ | (repeat (first | exact .refl _ | refine perm_take (by first | exact .head | exact .tail .head | exact .tail (.tail .head) | exact .tail (.tail (.tail .head)) | exact .tail (.tail (.tail (.tail .head))) | exact .tail (.tail (.tail (.tail (.tail .head))))) ?_ | refine perm_takeL (by repeat (first | exact .app | exact .here | apply TakeL.tail | apply TakeL.appr)) ?_ | refine perm_takeX (by repeat (first | exact .cons .head .nil | apply TakeL.tail | apply TakeL.appr)) ?_))) (hD5  True.intro))
              · skip
                refine gs_val (val_load1 kag173 rfl (sees_mem (by repeat (first | exact .head _ | refine .tail _ ?_ | refine List.mem_append_right _ ?_))) rfl) rfl rfl rfl ?_
                refine ga_branch (rs := [0, 7]) (by kernel_rfl) rfl (.cons (ls' := [true, false, true, true, true, true, true, false, false, false, false, false, false, false, false, false]) rfl rfl ?_ (.cons (ls' := [false, false, true, true, true, true, true, true, false, false, false, false, false, false, false, false]) rfl rfl ?_ .nil))
                · skip
                  refine gs_val (val_loadA kag31 rfl (sees_mem (by repeat (first | exact .head _ | refine .tail _ ?_ | refine List.mem_append_right _ ?_))) rfl rfl) rfl rfl rfl ?_
                  refine gx_env (F := [(0, _), (1, _), (2, _), (4, _), (6, _), (7, _), (8, _), (9, _), (12, _), (13, _), (14, _), (15, _), (16, _), (17, _), (18, _), (19, _), (20, _), (21, _), (22, _), (23, _), (24, _), (25, _), (26, _), (27, _), (28, _), (29, _), (30, _), (31, _), (32, _), (33, _), (34, _), (35, _), (36, _), (37, _), (39, _), (41, _), (42, _), (43, _), (44, _), (45, _)]) (.cons rfl (.cons rfl (.cons rfl (.cons rfl (.cons rfl (.cons rfl (.cons rfl (.cons rfl (.cons rfl (.cons rfl (.cons rfl (.cons rfl (.cons rfl (.cons rfl (.cons rfl (.cons rfl (.cons rfl (.cons rfl (.cons rfl (.cons rfl (.cons rfl (.cons rfl (.cons rfl (.cons rfl (.cons rfl (.cons rfl (.cons rfl (.cons rfl (.cons rfl (.cons rfl (.cons rfl (.cons rfl (.cons rfl (.cons rfl (.cons rfl (.cons rfl (.cons rfl (.cons rfl (.cons rfl (.cons rfl .nil)))))))))))))))))))))))))))))))))))))))) (gx_perm (by first | exact .refl _ | (repeat (first | exact .refl _ | refine perm_take (by first | exact .head | exact .tail .head | exact .tail (.tail .head) | exact .tail (.tail (.tail .head)) | exact .tail (.tail (.tail (.tail .head))) | exact .tail (.tail (.tail (.tail (.tail .head))))) ?_ | refine perm_takeL (by repeat (first | exact .app | exact .here | apply TakeL.tail | apply TakeL.appr)) ?_ | refine perm_takeX (by repeat (first | exact .cons .head .nil | apply TakeL.tail | apply TakeL.appr)) ?_))) (hD5  True.intro))
                · skip
                  refine gs_val (val_indexRow (m := i) ksl173 rfl rfl rfl hil (htw.own.look (by repeat (first | exact .here | exact .headR | exact .app | refine .tail ?_ | refine .appr ?_))) hil) rfl rfl rfl ?_
                  refine ga_take (i := 8) (ls' := [false, false, true, true, true, true, true, true, true, false, false, false, false, false, false, false]) rfl (by kernel_rfl) rfl (fun _ _ _ => val_fieldAddr kfo70_2 rfl) rfl rfl rfl ?_
                  refine ga_branch (rs := [0, 9]) (by kernel_rfl) rfl (.cons (ls' := [true, false, true, true, true, true, true, true, true, false, false, false, false, false, false, false]) rfl rfl ?_ (.cons (ls' := [false, false, true, true, true, true, true, true, true, true, false, false, false, false, false, false]) rfl rfl ?_ .nil))
                  · skip
                    refine gs_val (val_loadA kag31 rfl (sees_mem (by repeat (first | exact .head _ | refine .tail _ ?_ | refine List.mem_append_right _ ?_))) rfl rfl) rfl rfl rfl ?_
                    refine gx_env (F := [(0, _), (1, _), (2, _), (4, _), (6, _), (7, _), (8, _), (9, _), (12, _), (13, _), (14, _), (15, _), (16, _), (17, _), (18, _), (19, _), (20, _), (21, _), (22, _), (23, _), (24, _), (25, _), (26, _), (27, _), (28, _), (29, _), (30, _), (31, _), (32, _), (33, _), (34, _), (35, _), (36, _), (37, _), (39, _), (41, _), (42, _), (43, _), (44, _), (45, _), (46, _), (47, _)]) (.cons rfl (.cons rfl (.cons rfl (.cons rfl (.cons rfl (.cons rfl (.cons rfl (.cons rfl (.cons rfl (.cons rfl (.cons rfl (.cons rfl (.cons rfl (.cons rfl (.cons rfl (.cons rfl (.cons rfl (.cons rfl (.cons rfl (.cons rfl (.cons rfl (.cons rfl (.cons rfl (.cons rfl (.cons rfl (.cons rfl (.cons rfl (.cons rfl (.cons rfl (.cons rfl (.cons rfl (.cons rfl (.cons rfl (.cons rfl (.cons rfl (.cons rfl (.cons rfl (.cons rfl (.cons rfl (.cons rfl (.cons rfl (.cons rfl .nil)))))))))))))))))))))))))))))))))))))))))) (gx_perm (by first | exact .refl _ | (repeat (first | exact .refl _ | refine perm_take (by first | exact .head | exact .tail .head | exact .tail (.tail .head) | exact .tail (.tail (.tail .head)) | exact .tail (.tail (.tail (.tail .head))) | exact .tail (.tail (.tail (.tail (.tail .head))))) ?_ | refine perm_takeL (by repeat (first | exact .app | exact .here | apply TakeL.tail | apply TakeL.appr)) ?_ | refine perm_takeX (by repeat (first | exact .cons .head .nil | apply TakeL.tail | apply TakeL.appr)) ?_))) (hD3  True.intro))
                  · skip
                    refine gs_val (val_load1 kag54 rfl ((htw.own.look (by repeat (first | exact .here | exact .headR | exact .app | refine .tail ?_ | refine .appr ?_))).rowAt hil 9) rfl) rfl rfl rfl ?_
                    refine ga_branch (rs := [0]) (by kernel_rfl) rfl (.cons (ls' := [true, false, true, true, true, true, true, true, true, true, false, false, false, false, false, false]) rfl rfl ?_ .nil)
                    refine gs_val (val_loadA kag31 rfl (sees_mem (by repeat (first | exact .head _ | refine .tail _ ?_ | refine List.mem_append_right _ ?_))) rfl rfl) rfl rfl rfl ?_
                    refine gx_env (F := [(0, _), (1, _), (2, _), (4, _), (6, _), (7, _), (8, _), (9, _), (12, _), (13, _), (14, _), (15, _), (16, _), (17, _), (18, _), (19, _), (20, _), (21, _), (22, _), (23, _), (24, _), (25, _), (26, _), (27, _), (28, _), (29, _), (30, _), (31, _), (32, _), (33, _), (34, _), (35, _), (36, _), (37, _), (39, _), (41, _), (42, _), (43, _), (44, _), (45, _), (46, _), (47, _), (48, _)]) (.cons rfl (.cons rfl (.cons rfl (.cons rfl (.cons rfl (.cons rfl (.cons rfl (.cons rfl (.cons rfl (.cons rfl (.cons rfl (.cons rfl (.cons rfl (.cons rfl (.cons rfl (.cons rfl (.cons rfl (.cons rfl (.cons rfl (.cons rfl (.cons rfl (.cons rfl (.cons rfl (.cons rfl (.cons rfl (.cons rfl (.cons rfl (.cons rfl (.cons rfl (.cons rfl (.cons rfl (.cons rfl (.cons rfl (.cons rfl (.cons rfl (.cons rfl (.cons rfl (.cons rfl (.cons rfl (.cons rfl (.cons rfl (.cons rfl (.cons rfl .nil))))))))))))))))))))))))))))))))))))))))))) (gx_perm (by first | exact .refl _ | (repeat (first | exact .refl _ | refine perm_take (by first | exact .head | exact .tail .head | exact .tail (.tail .head) | exact .tail (.tail (.tail .head)) | exact .tail (.tail (.tail (.tail .head))) | exact .tail (.tail (.tail (.tail (.tail .head))))) ?_ | refine perm_takeL (by repeat (first | exact .app | exact .here | apply TakeL.tail | apply TakeL.appr)) ?_ | refine perm_takeX (by repeat (first | exact .cons .head .nil | apply TakeL.tail | apply TakeL.appr)) ?_))) (hD2  True.intro))
            · rintro  _
              refine ga_branch (rs := [1, 7]) (by kernel_rfl) rfl (.cons (ls' := [true, true, true, true, true, true, true, false, false, false, false, false, false, false, false, false]) rfl rfl ?_ (.cons (ls' := [true, false, true, true, true, true, true, true, false, false, false, false, false, false, false, false]) rfl rfl ?_ .nil))
              · skip
                refine gs_pure (enters kcall121 (.cons rfl .nil)) (key_spec d) rfl rfl rfl (fun _ _ => trivial) ?_
                refine gx_env (F := [(0, _), (1, _), (2, _), (4, _), (6, _), (7, _), (8, _), (9, _), (12, _), (13, _), (14, _), (15, _), (16, _), (17, _), (18, _), (19, _), (20, _), (21, _), (22, _), (23, _), (24, _), (25, _), (26, _), (27, _), (28, _), (29, _), (30, _), (31, _), (32, _), (33, _), (34, _), (35, _), (36, _), (37, _), (39, _), (40, _), (41, _), (42, _), (43, _), (44, _), (45, _)]) (.cons rfl (.cons rfl (.cons rfl (.cons rfl (.cons rfl (.cons rfl (.cons rfl (.cons rfl (.cons rfl (.cons rfl (.cons rfl (.cons rfl (.cons rfl (.cons rfl (.cons rfl (.cons rfl (.cons rfl (.cons rfl (.cons rfl (.cons rfl (.cons rfl (.cons rfl (.cons rfl (.cons rfl (.cons rfl (.cons rfl (.cons rfl (.cons rfl (.cons rfl (.cons rfl (.cons rfl (.cons rfl (.cons rfl (.cons rfl (.cons rfl (.cons rfl (.cons rfl (.cons rfl (.cons rfl (.cons rfl (.cons rfl .nil))))))))))))))))))))))))))))))))))))))))) (gx_perm (by first | exact .refl _ | (repeat (first | exact .refl _ | refine perm_take (by first | exact .head | exact .tail .head | exact .tail (.tail .head) | exact .tail (.tail (.tail .head)) | exact .tail (.tail (.tail (.tail .head))) | exact .tail (.tail (.tail (.tail (.tail .head))))) ?_ | refine perm_takeL (by repeat (first | exact .app | exact .here | apply TakeL.tail | apply TakeL.appr)) ?_ | refine perm_takeX (by repeat (first | exact .cons .head .nil | apply TakeL.tail | apply TakeL.appr)) ?_))) (hD4  True.intro))
              · skip
                refine gs_val (val_indexRow (m := i) ksl173 rfl rfl rfl hil (htw.own.look (by repeat (first | exact .here | exact .headR | exact .app | refine .tail ?_ | refine .appr ?_))) hil) rfl rfl rfl ?_
                refine ga_take (i := 8) (ls' := [true, false, true, true, true, true, true, true, true, false, false, false, false, false, false, false]) rfl (by kernel_rfl) rfl (fun _ _ _ => val_fieldAddr kfo70_2 rfl) rfl rfl rfl ?_
                refine gx_env (F := [(0, _), (1, _), (2, _), (4, _), (6, _), (7, _), (8, _), (9, _), (12, _), (13, _), (14, _), (15, _), (16, _), (17, _), (18, _), (19, _), (20, _), (21, _), (22, _), (23, _), (24, _), (25, _), (26, _), (27, _), (28, _), (29, _), (30, _), (31, _), (32, _), (33, _), (34, _), (35, _), (36, _), (37, _), (39, _), (41, _), (42, _), (43, _), (44, _), (45, _), (46, _), (47, _)]) (.cons rfl (.cons rfl (.cons rfl (.cons rfl (.cons rfl (.cons rfl (.cons rfl (.cons rfl (.cons rfl (.cons rfl (.cons rfl (.cons rfl (.cons rfl (.cons rfl (.cons rfl (.cons rfl (.cons rfl (.cons rfl (.cons rfl (.cons rfl (.cons rfl (.cons rfl (.cons rfl (.cons rfl (.cons rfl (.cons rfl (.cons rfl (.cons rfl (.cons rfl (.cons rfl (.cons rfl (.cons rfl (.cons rfl (.cons rfl (.cons rfl (.cons rfl (.cons rfl (.cons rfl (.cons rfl (.cons rfl (.cons rfl (.cons rfl .nil)))))))))))))))))))))))))))))))))))))))))) (gx_perm (by first | exact .refl _ | (repeat (first | exact .refl _ | refine perm_take (by first | exact .head | exact .tail .head | exact .tail (.tail .head) | exact .tail (.tail (.tail .head)) | exact .tail (.tail (.tail (.tail .head))) | exact .tail (.tail (.tail (.tail (.tail .head))))) ?_ | refine perm_takeL (by repeat (first | exact .app | exact .here | apply TakeL.tail | apply TakeL.appr)) ?_ | refine perm_takeX (by repeat (first | exact .cons .head .nil | apply TakeL.tail | apply TakeL.appr)) ?_))) (hD3  True.intro))
          · rintro  _
            refine ga_branch (rs := [7]) (by kernel_rfl) rfl (.cons (ls' := [true, true, true, true, true, true, true, true, false, false, false, false, false, false, false, false]) rfl rfl ?_ .nil)
            refine gs_val (val_indexRow (m := i) ksl173 rfl rfl rfl hil (htw.own.look (by repeat (first | exact .here | exact .headR | exact .app | refine .tail ?_ | refine .appr ?_))) hil) rfl rfl rfl ?_
            refine ga_take (i := 8) (ls' := [true, true, true, true, true, true, true, true, true, false, false, false, false, false, false, false]) rfl (by kernel_rfl) rfl (fun _ _ _ => val_fieldAddr kfo70_2 rfl) rfl rfl rfl ?_
            refine gx_env (F := [(0, _), (1, _), (2, _), (4, _), (6, _), (7, _), (8, _), (9, _), (12, _), (13, _), (14, _), (15, _), (16, _), (17, _), (18, _), (19, _), (20, _), (21, _), (22, _), (23, _), (24, _), (25, _), (26, _), (27, _), (28, _), (29, _), (30, _), (31, _), (32, _), (33, _), (34, _), (35, _), (36, _), (37, _), (39, _), (40, _), (41, _), (42, _), (43, _), (44, _), (45, _), (46, _), (47, _)]) (.cons rfl (.cons rfl (.cons rfl (.cons rfl (.cons rfl (.cons rfl (.cons rfl (.cons rfl (.cons rfl (.cons rfl (.cons rfl (.cons rfl (.cons rfl (.cons rfl (.cons rfl (.cons rfl (.cons rfl (.cons rfl (.cons rfl (.cons rfl (.cons rfl (.cons rfl (.cons rfl (.cons rfl (.cons rfl (.cons rfl (.cons rfl (.cons rfl (.cons rfl (.cons rfl (.cons rfl (.cons rfl (.cons rfl (.cons rfl (.cons rfl (.cons rfl (.cons rfl (.cons rfl (.cons rfl (.cons rfl (.cons rfl (.cons rfl (.cons rfl .nil))))))))))))))))))))))))))))))))))))))))))) (gx_perm (by first | exact .refl _ | (repeat (first | exact .refl _ | refine perm_take (by first | exact .head | exact .tail .head | exact .tail (.tail .head) | exact .tail (.tail (.tail .head)) | exact .tail (.tail (.tail (.tail .head))) | exact .tail (.tail (.tail (.tail (.tail .head))))) ?_ | refine perm_takeL (by repeat (first | exact .app | exact .here | apply TakeL.tail | apply TakeL.appr)) ?_ | refine perm_takeX (by repeat (first | exact .cons .head .nil | apply TakeL.tail | apply TakeL.appr)) ?_))) (hD1  True.intro))
        · rintro  _
          refine ga_branch (rs := [1, 9]) (by kernel_rfl) rfl (.cons (ls' := [true, true, true, true, true, true, true, true, true, false, false, false, false, false, false, false]) rfl rfl ?_ (.cons (ls' := [true, false, true, true, true, true, true, true, true, true, false, false, false, false, false, false]) rfl rfl ?_ .nil))
          · skip
            refine gs_pure (enters kcall121 (.cons rfl .nil)) (key_spec d) rfl rfl rfl (fun _ _ => trivial) ?_
            refine gx_env (F := [(0, _), (1, _), (2, _), (4, _), (6, _), (7, _), (8, _), (9, _), (12, _), (13, _), (14, _), (15, _), (16, _), (17, _), (18, _), (19, _), (20, _), (21, _), (22, _), (23, _), (24, _), (25, _), (26, _), (27, _), (28, _), (29, _), (30, _), (31, _), (32, _), (33, _), (34, _), (35, _), (36, _), (37, _), (39, _), (40, _), (41, _), (42, _), (43, _), (44, _), (45, _), (46, _), (47, _)]) (.cons rfl (.cons rfl (.cons rfl (.cons rfl (.cons rfl (.cons rfl (.cons rfl (.cons rfl (.cons rfl (.cons rfl (.cons rfl (.cons rfl (.cons rfl (.cons rfl (.cons rfl (.cons rfl (.cons rfl (.cons rfl (.cons rfl (.cons rfl (.cons rfl (.cons rfl (.cons rfl (.cons rfl (.cons rfl (.cons rfl (.cons rfl (.cons rfl (.cons rfl (.cons rfl (.cons rfl (.cons rfl (.cons rfl (.cons rfl (.cons rfl (.cons rfl (.cons rfl (.cons rfl (.cons rfl (.cons rfl (.cons rfl (.cons rfl (.cons rfl .nil))))))))))))))))))))))))))))))))))))))))))) (gx_perm (by first | exact .refl _ | (repeat (first | exact .refl _ | refine perm_take (by first | exact .head | exact .tail .head | exact .tail (.tail .head) | exact .tail (.tail (.tail .head)) | exact .tail (.tail (.tail (.tail .head))) | exact .tail (.tail (.tail (.tail (.tail .head))))) ?_ | refine perm_takeL (by repeat (first | exact .app | exact .here | apply TakeL.tail | apply TakeL.appr)) ?_ | refine perm_takeX (by repeat (first | exact .cons .head .nil | apply TakeL.tail | apply TakeL.appr)) ?_))) (hD1  True.intro))
          · skip
            refine gs_val (val_load1 kag54 rfl ((htw.own.look (by repeat (first | exact .here | exact .headR | exact .app | refine .tail ?_ | refine .appr ?_))).rowAt hil 9) rfl) rfl rfl rfl ?_
            refine gx_env (F := [(0, _), (1, _), (2, _), (4, _), (6, _), (7, _), (8, _), (9, _), (12, _), (13, _), (14, _), (15, _), (16, _), (17, _), (18, _), (19, _), (20, _), (21, _), (22, _), (23, _), (24, _), (25, _), (26, _), (27, _), (28, _), (29, _), (30, _), (31, _), (32, _), (33, _), (34, _), (35, _), (36, _), (37, _), (39, _), (41, _), (42, _), (43, _), (44, _), (45, _), (46, _), (47, _), (48, _)]) (.cons rfl (.cons rfl (.cons rfl (.cons rfl (.cons rfl (.cons rfl (.cons rfl (.cons rfl (.cons rfl (.cons rfl (.cons rfl (.cons rfl (.cons rfl (.cons rfl (.cons rfl (.cons rfl (.cons rfl (.cons rfl (.cons rfl (.cons rfl (.cons rfl (.cons rfl (.cons rfl (.cons rfl (.cons rfl (.cons rfl (.cons rfl (.cons rfl (.cons rfl (.cons rfl (.cons rfl (.cons rfl (.cons rfl (.cons rfl (.cons rfl (.cons rfl (.cons rfl (.cons rfl (.cons rfl (.cons rfl (.cons rfl (.cons rfl (.cons rfl .nil))))))))))))))))))))))))))))))))))))))))))) (gx_perm (by first | exact .refl _ | (repeat (first | exact .refl _ | refine perm_take (by first | exact .head | exact .tail .head | exact .tail (.tail .head) | exact .tail (.tail (.tail .head)) | exact .tail (.tail (.tail (.tail .head))) | exact .tail (.tail (.tail (.tail (.tail .head))))) ?_ | refine perm_takeL (by repeat (first | exact .app | exact .here | apply TakeL.tail | apply TakeL.appr)) ?_ | refine perm_takeX (by repeat (first | exact .cons .head .nil | apply TakeL.tail | apply TakeL.appr)) ?_))) (hD2  True.intro))
      · rintro  _
        refine ga_branch (rs := [1]) (by kernel_rfl) rfl (.cons (ls' := [true, true, true, true, true, true, true, true, true, true, false, false, false, false, false, false]) rfl rfl ?_ .nil)
        refine gs_pure (enters kcall121 (.cons rfl .nil)) (key_spec d) rfl rfl rfl (fun _ _ => trivial) ?_
        refine gx_env (F := [(0, _), (1, _), (2, _), (4, _), (6, _), (7, _), (8, _), (9, _), (12, _), (13, _), (14, _), (15, _), (16, _), (17, _), (18, _), (19, _), (20, _), (21, _), (22, _), (23, _), (24, _), (25, _), (26, _), (27, _), (28, _), (29, _), (30, _), (31, _), (32, _), (33, _), (34, _), (35, _), (36, _), (37, _), (39, _), (40, _), (41, _), (42, _), (43, _), (44, _), (45, _), (46, _), (47, _), (48, _)]) (.cons rfl (.cons rfl (.cons rfl (.cons rfl (.cons rfl (.cons rfl (.cons rfl (.cons rfl (.cons rfl (.cons rfl (.cons rfl (.cons rfl (.cons rfl (.cons rfl (.cons rfl (.cons rfl (.cons rfl (.cons rfl (.cons rfl (.cons rfl (.cons rfl (.cons rfl (.cons rfl (.cons rfl (.cons rfl (.cons rfl (.cons rfl (.cons rfl (.cons rfl (.cons rfl (.cons rfl (.cons rfl (.cons rfl (.cons rfl (.cons rfl (.cons rfl (.cons rfl (.cons rfl (.cons rfl (.cons rfl (.cons rfl (.cons rfl (.cons rfl (.cons rfl .nil)))))))))))))))))))))))))))))))))))))))))))) (gx_perm (by first | exact .refl _ | (repeat (first | exact .refl _ | refine perm_take (by first | exact .head | exact .tail .head | exact .tail (.tail .head) | exact .tail (.tail (.tail .head)) | exact .tail (.tail (.tail (.tail .head))) | exact .tail (.tail (.tail (.tail (.tail .head))))) ?_ | refine perm_takeL (by repeat (first | exact .app | exact .here | apply TakeL.tail | apply TakeL.appr)) ?_ | refine perm_takeX (by repeat (first | exact .cons .head .nil | apply TakeL.tail | apply TakeL.appr)) ?_))) (hD0  True.intro))
    · rintro  _
      refine ga_branch (rs := [9]) (by kernel_rfl) rfl (.cons (ls' := [true, true, true, true, true, true, true, true, true, true, false, false, false, false, false, false]) rfl rfl ?_ .nil)
      refine gs_val (val_load1 kag54 rfl ((htw.own.look (by repeat (first | exact .here | exact .headR | exact .app | refine .tail ?_ | refine .appr ?_))).rowAt hil 9) rfl) rfl rfl rfl ?_
      refine gx_env (F := [(0, _), (1, _), (2, _), (4, _), (6, _), (7, _), (8, _), (9, _), (12, _), (13, _), (14, _), (15, _), (16, _), (17, _), (18, _), (19, _), (20, _), (21, _), (22, _), (23, _), (24, _), (25, _), (26, _), (27, _), (28, _), (29, _), (30, _), (31, _), (32, _), (33, _), (34, _), (35, _), (36, _), (37, _), (39, _), (40, _), (41, _), (42, _), (43, _), (44, _), (45, _), (46, _), (47, _), (48, _)]) (.cons rfl (.cons rfl (.cons rfl (.cons rfl (.cons rfl (.cons rfl (.cons rfl (.cons rfl (.cons rfl (.cons rfl (.cons rfl (.cons rfl (.cons rfl (.cons rfl (.cons rfl (.cons rfl (.cons rfl (.cons rfl (.cons rfl (.cons rfl (.cons rfl (.cons rfl (.cons rfl (.cons rfl (.cons rfl (.cons rfl (.cons rfl (.cons rfl (.cons rfl (.cons rfl (.cons rfl (.cons rfl (.cons rfl (.cons rfl (.cons rfl (.cons rfl (.cons rfl (.cons rfl (.cons rfl (.cons rfl (.cons rfl (.cons rfl (.cons rfl (.cons rfl .nil)))))))))))))))))))))))))))))))))))))))))))) (gx_perm (by first | exact .refl _ | (repeat (first | exact .refl _ | refine perm_take (by first | exact .head | exact .tail .head | exact .tail (.tail .head) | exact .tail (.tail (.tail .head)) | exact .tail (.tail (.tail (.tail .head))) | exact .tail (.tail (.tail (.tail (.tail .head))))) ?_ | refine perm_takeL (by repeat (first | exact .app | exact .here | apply TakeL.tail | apply TakeL.appr)) ?_ | refine perm_takeX (by repeat (first | exact .cons .head .nil | apply TakeL.tail | apply TakeL.appr)) ?_))) (hD0  True.intro))
  · rintro  _
    refine ga_branch (rs := [10]) (by kernel_rfl) rfl (.cons (ls' := [true, true, true, true, true, true, true, true, true, true, true, false, false, false, false, false]) rfl rfl ?_ .nil)
    refine gs_makes (enters kcall122 (.cons rfl (.cons rfl .nil))) (open_spec (keyW d) ml[i].ba ml[i].bl.length ml[i].c ml[i].bl rfl (by omega) hcap) rfl rfl rfl (row_of_sees (hbox.sees (fun w hi => hi.sub (.cons _ (.cons _ (.cons _ (List.sublist_append_right _ _))))))) (fun ⟨ob, oc, oN⟩ ho' => ?_)
    refine ga_take (i := 11) (ls' := [true, true, true, true, true, true, true, true, true, true, true, true, false, false, false, false]) rfl (by kernel_rfl) rfl (fun _ _ _ => val_move rfl) rfl rfl rfl ?_
    refine ga_take (i := 12) (ls' := [true, true, true, true, true, true, true, true, true, true, true, true, true, false, false, false]) rfl (by kernel_rfl) rfl (fun _ _ _ => val_extract rfl rfl) rfl rfl rfl ?_
    refine ga_take (i := 13) (ls' := [true, true, true, true, true, true, true, true, true, true, true, true, true, true, false, false]) rfl (by kernel_rfl) rfl (fun _ _ _ => val_extract rfl rfl) rfl rfl rfl ?_
    refine ga_take (i := 14) (ls' := [true, true, true, true, true, true, true, true, true, true, true, true, true, true, true, false]) rfl (by kernel_rfl) rfl (fun _ _ _ => val_assign rfl) rfl rfl rfl ?_
    refine ga_take (i := 15) (ls' := [true, true, true, true, true, true, true, true, true, true, true, true, true, true, true, true]) rfl (by kernel_rfl) rfl (fun _ _ _ => val_assign rfl) rfl rfl rfl ?_
    refine ga_done (by kernel_rfl) ?_
    refine gk_seq ?_
    refine gc_seq ?_
    refine gc_seq ?_
    refine gc_region ?_
    refine gl_cons (gs_val (val_move rfl) rfl rfl rfl ?_)
    refine gl_cons (gs_val (val_yes (val_neq rfl rfl) he) rfl rfl rfl ?_)
    refine gl_nil ?_
    refine gk_seq ?_
    refine gc_true rfl ?_
    refine gc_seq ?_
    refine gc_region ?_
    refine gl_cons (gs_val (val_assign rfl) rfl rfl rfl ?_)
    refine gl_cons (gs_val (val_assign rfl) rfl rfl rfl ?_)
    refine gl_nil ?_
    refine gk_seq ?_
    refine gc_ret ?_
    refine gk_seq_ret ?_
    refine gk_ret rfl (resv_tmp rfl (resv_tmp rfl .nil)) (M := TWL 175 bt room (some ⟨lb, 0, none⟩) ml.length c mb clk rows NS NB) ((List.Sublist.cons _ (List.Sublist.refl _)).trans (List.sublist_append_right oN _)) ?_
    exact ⟨(), trivial, rfl, rfl⟩

/-- (*baize/tower.Tower).See -/
theorem see_yes (bt room : Nat) (ml : List Am) (lb : Nat) (c mb clk : Nat) (rows : List MRow) (NS NB : List Ent) (htw : TWm 70 ml (some ⟨lb, 0, none⟩) c rows NS NB) (d : BitVec 64) (base : Int) (i : Nat) (hil : i < ml.length) (hix : ixA (hintW d) (ml.map Am.app) = some i) (ho : base < ml[i].nb) (hb : ml[i].bl.length ≤ 1048576) (he : openE (keyW d) ml[i].bl = 0) : Turns Try.prog 40 ([.pointer (some ⟨bt, 0, none⟩), Dig d, I64 base]).toArray (fun _ => True) (TWL 175 bt room (some ⟨lb, 0, none⟩) ml.length c mb clk rows NS NB) (fun s : Option Addr × Nat × List Ent => Own 5 1 s.1 (openL (keyW d) ml[i].bl).length s.2.1 ((openL (keyW d) ml[i].bl).map U8) s.2.2) (fun s => .tuple #[.slice s.1 (openL (keyW d) ml[i].bl).length s.2.1, .bool true]) (fun s => s.2.2 ++ TWL 175 bt room (some ⟨lb, 0, none⟩) ml.length c mb clk rows NS NB) := by
  obtain ⟨hbox, hcap⟩ := htw.box _ (List.getElem_mem hil)
  refine spec_walk (n := 55) Try.func40 rfl rfl rfl (fun w0 hpre => ?_)
  refine gc_seq ?_
  refine gc_region ?_
  refine gl_cons (gs_box rfl rfl rfl rfl (fun b4 => ?_))
  refine gl_cons (gs_val (val_assign rfl) rfl rfl rfl ?_)
  refine gl_cons (gs_val (val_assign rfl) rfl rfl rfl ?_)
  refine gl_nil ?_
  refine gk_seq ?_
  refine gc_seq ?_
  refine gc_seq ?_
  refine gc_region ?_
  refine gl_cons (gs_val (val_move rfl) rfl rfl rfl ?_)
  refine gl_cons (gs_val (val_eqlNil kun66 rfl rfl) rfl rfl rfl ?_)
  refine gl_nil ?_
  refine gk_seq ?_
  refine gc_false rfl ?_
  refine gc_skip ?_
  refine gk_seq ?_
  refine gc_seq ?_
  refine gc_drawAll kmixed (by kernel_rfl) ?_
  refine gq_val (val_move rfl) rfl rfl rfl ?_
  refine gq_val (val_nilCheck rfl) rfl rfl rfl ?_
  refine gq_val (val_fieldAddr kfo175_2 rfl) rfl rfl rfl ?_
  refine gq_val (val_load1 kag172 rfl (sees_mem (by repeat (first | exact .head _ | refine .tail _ ?_ | refine List.mem_append_right _ ?_))) rfl) rfl rfl rfl ?_
  refine gq_val (val_loadA kag31 rfl (sees_mem (by repeat (first | exact .head _ | refine .tail _ ?_ | refine List.mem_append_right _ ?_))) rfl rfl) rfl rfl rfl ?_
  refine gq_pure (enters kcall49 (.cons rfl .nil)) (hint_spec d) rfl rfl rfl (fun _ _ => trivial) ?_
  refine gq_val (val_cast (v := .tuple #[NV i, .bool true]) (val_lookup2 (l := rows) (clk := clk) (d := hintW d) (by kernel_rfl : mapT Try.prog 172 = some (31, 3)) kdig31 kze3 rfl rfl rfl (knows_mem (by repeat (first | exact .head _ | refine .tail _ ?_ | refine List.mem_append_right _ ?_)))) (look_tup_some (htw.look hix))) rfl rfl rfl ?_
  refine gq_val (val_move rfl) rfl rfl rfl ?_
  refine gq_val (val_extract rfl rfl) rfl rfl rfl ?_
  refine gq_val (val_extract rfl rfl) rfl rfl rfl ?_
  refine gq_val (val_assign rfl) rfl rfl rfl ?_
  refine gq_val (val_assign rfl) rfl rfl rfl ?_
  refine gq_nil ?_
  refine gl_nil ?_
  refine gk_seq ?_
  refine gc_seq ?_
  refine gc_seq ?_
  refine gc_region ?_
  refine gl_cons (gs_val (val_move rfl) rfl rfl rfl ?_)
  refine gl_cons (gs_val (val_not rfl) rfl rfl rfl ?_)
  refine gl_cons (gs_val (val_move rfl) rfl rfl rfl ?_)
  refine gl_cons (gs_val (val_move rfl) rfl rfl rfl ?_)
  refine gl_cons (gs_val (val_nilCheck rfl) rfl rfl rfl ?_)
  refine gl_cons (gs_val (val_fieldAddr kfo175_1 rfl) rfl rfl rfl ?_)
  refine gl_cons (gs_val (val_load1 kag173 rfl (sees_mem (by repeat (first | exact .head _ | refine .tail _ ?_ | refine List.mem_append_right _ ?_))) rfl) rfl rfl rfl ?_)
  refine gl_cons (gs_val (val_move rfl) rfl rfl rfl ?_)
  refine gl_cons (gs_val (val_indexRow (m := i) ksl173 rfl rfl rfl hil (htw.own.look (by repeat (first | exact .here | exact .headR | exact .app | refine .tail ?_ | refine .appr ?_))) hil) rfl rfl rfl ?_)
  refine gl_cons (gs_val (val_fieldAddr kfo70_1 rfl) rfl rfl rfl ?_)
  refine gl_cons (gs_val (val_load1 kag3 rfl ((htw.own.look (by repeat (first | exact .here | exact .headR | exact .app | refine .tail ?_ | refine .appr ?_))).rowAt hil 8) rfl) rfl rfl rfl ?_)
  refine gl_cons (gs_val (val_move rfl) rfl rfl rfl ?_)
  refine gl_cons (gs_val (val_no (val_leq rfl rfl) (by omega)) rfl rfl rfl ?_)
  refine gl_cons (gs_val (val_pick_f rfl rfl) rfl rfl rfl ?_)
  refine gl_nil ?_
  refine gk_seq ?_
  refine gc_false rfl ?_
  refine gc_skip ?_
  refine gk_seq ?_
  refine gc_seq ?_
  refine ga_start (m := 16) (ls := [false, false, false, false, false, false, false, false, false, false, false, false, false, false, false, false]) kmixed rfl rfl ?_
  apply share0  (m' := 6) (ls' := [true, true, true, true, true, true, true, true, true, true, false, false, false, false, false, false])
  · intro hD0
    apply share0  (m' := 7) (ls' := [true, true, true, true, true, true, true, true, true, false, false, false, false, false, false, false])
    · intro hD1
      apply share0  (m' := 7) (ls' := [true, false, true, true, true, true, true, true, true, true, false, false, false, false, false, false])
      · intro hD2
        apply share0  (m' := 8) (ls' := [true, false, true, true, true, true, true, true, true, false, false, false, false, false, false, false])
        · intro hD3
          apply share0  (m' := 9) (ls' := [true, true, true, true, true, true, true, false, false, false, false, false, false, false, false, false])
          · intro hD4
            apply share0  (m' := 10) (ls' := [true, false, true, true, true, true, true, false, false, false, false, false, false, false, false, false])
            · intro hD5
              refine ga_take (i := 2) (ls' := [false, false, true, false, false, false, false, false, false, false, false, false, false, false, false, false]) rfl (by kernel_rfl) rfl (fun _ _ _ => val_move rfl) rfl rfl rfl ?_
              refine ga_take (i := 3) (ls' := [false, false, true, true, false, false, false, false, false, false, false, false, false, false, false, false]) rfl (by kernel_rfl) rfl (fun _ _ _ => val_nilCheck rfl) rfl rfl rfl ?_
              refine ga_take (i := 4) (ls' := [false, false, true, true, true, false, false, false, false, false, false, false, false, false, false, false]) rfl (by kernel_rfl) rfl (fun _ _ _ => val_fieldAddr kfo175_1 rfl) rfl rfl rfl ?_
              refine ga_take (i := 6) (ls' := [false, false, true, true, true, false, true, false, false, false, false, false, false, false, false, false]) rfl (by kernel_rfl) rfl (fun _ _ _ => val_move rfl) rfl rfl rfl ?_
              refine ga_branch (rs := [0, 5]) (by kernel_rfl) rfl (.cons (ls' := [true, false, true, true, true, false, true, false, false, false, false, false, false, false, false, false]) rfl rfl ?_ (.cons (ls' := [false, false, true, true, true, true, true, false, false, false, false, false, false, false, false, false]) rfl rfl ?_ .nil))
              · skip
                refine gs_val (val_loadA kag31 rfl (sees_mem (by repeat (first | exact .head _ | refine .tail _ ?_ | refine List.mem_append_right _ ?_))) rfl rfl) rfl rfl rfl ?_
                refine ga_branch (rs := [1, 5]) (by kernel_rfl) rfl (.cons (ls' := [true, true, true, true, true, false, true, false, false, false, false, false, false, false, false, false]) rfl rfl ?_ (.cons (ls' := [true, false, true, true, true, true, true, false, false, false, false, false, false, false, false, false]) rfl rfl ?_ .nil))
                · skip
                  refine gs_pure (enters kcall121 (.cons rfl .nil)) (key_spec d) rfl rfl rfl (fun _ _ => trivial) ?_
                  refine ga_branch (rs := [5]) (by kernel_rfl) rfl (.cons (ls' := [true, true, true, true, true, true, true, false, false, false, false, false, false, false, false, false]) rfl rfl ?_ .nil)
                  refine gs_val (val_load1 kag173 rfl (sees_mem (by repeat (first | exact .head _ | refine .tail _ ?_ | refine List.mem_append_right _ ?_))) rfl) rfl rfl rfl ?_
                  refine gx_env (F := [(0, _), (1, _), (2, _), (4, _), (6, _), (7, _), (8, _), (9, _), (12, _), (13, _), (14, _), (15, _), (16, _), (17, _), (18, _), (19, _), (20, _), (21, _), (22, _), (23, _), (24, _), (25, _), (26, _), (27, _), (28, _), (29, _), (30, _), (31, _), (32, _), (33, _), (34, _), (35, _), (36, _), (37, _), (39, _), (40, _), (41, _), (42, _), (43, _), (44, _), (45, _)]) (.cons rfl (.cons rfl (.cons rfl (.cons rfl (.cons rfl (.cons rfl (.cons rfl (.cons rfl (.cons rfl (.cons rfl (.cons rfl (.cons rfl (.cons rfl (.cons rfl (.cons rfl (.cons rfl (.cons rfl (.cons rfl (.cons rfl (.cons rfl (.cons rfl (.cons rfl (.cons rfl (.cons rfl (.cons rfl (.cons rfl (.cons rfl (.cons rfl (.cons rfl (.cons rfl (.cons rfl (.cons rfl (.cons rfl (.cons rfl (.cons rfl (.cons rfl (.cons rfl (.cons rfl (.cons rfl (.cons rfl (.cons rfl .nil))))))))))))))))))))))))))))))))))))))))) (gx_perm (by first | exact .refl _ | (repeat (first | exact .refl _ | refine perm_take (by first | exact .head | exact .tail .head | exact .tail (.tail .head) | exact .tail (.tail (.tail .head)) | exact .tail (.tail (.tail (.tail .head))) | exact .tail (.tail (.tail (.tail (.tail .head))))) ?_ | refine perm_takeL (by repeat (first | exact .app | exact .here | apply TakeL.tail | apply TakeL.appr)) ?_ | refine perm_takeX (by repeat (first | exact .cons .head .nil | apply TakeL.tail | apply TakeL.appr)) ?_))) (hD4  True.intro))
                · skip
                  refine gs_val (val_load1 kag173 rfl (sees_mem (by repeat (first | exact .head _ | refine .tail _ ?_ | refine List.mem_append_right _ ?_))) rfl) rfl rfl rfl ?_
                  refine gx_env (F := [(0, _), (1, _), (2, _), (4, _), (6, _), (7, _), (8, _), (9, _), (12, _), (13, _), (14, _), (15, _), (16, _), (17, _), (18, _), (19, _), (20, _), (21, _), (22, _), (23, _), (24, _), (25, _), (26, _), (27, _), (28, _), (29, _), (30, _), (31, _), (32, _), (33, _), (34, _), (35, _), (36, _), (37, _), (39, _), (41, _), (42, _), (43, _), (44, _), (45, _)]) (.cons rfl (.cons rfl (.cons rfl (.cons rfl (.cons rfl (.cons rfl (.cons rfl (.cons rfl (.cons rfl (.cons rfl (.cons rfl (.cons rfl (.cons rfl (.cons rfl (.cons rfl (.cons rfl (.cons rfl (.cons rfl (.cons rfl (.cons rfl (.cons rfl (.cons rfl (.cons rfl (.cons rfl (.cons rfl (.cons rfl (.cons rfl (.cons rfl (.cons rfl (.cons rfl (.cons rfl (.cons rfl (.cons rfl (.cons rfl (.cons rfl (.cons rfl (.cons rfl (.cons rfl (.cons rfl (.cons rfl .nil)))))))))))))))))))))))))))))))))))))))) (gx_perm (by first | exact .refl _ | (repeat (first | exact .refl _ | refine perm_take (by first | exact .head | exact .tail .head | exact .tail (.tail .head) | exact .tail (.tail (.tail .head)) | exact .tail (.tail (.tail (.tail .head))) | exact .tail (.tail (.tail (.tail (.tail .head))))) ?_ | refine perm_takeL (by repeat (first | exact .app | exact .here | apply TakeL.tail | apply TakeL.appr)) ?_ | refine perm_takeX (by repeat (first | exact .cons .head .nil | apply TakeL.tail | apply TakeL.appr)) ?_))) (hD5  True.intro))
              · skip
                refine gs_val (val_load1 kag173 rfl (sees_mem (by repeat (first | exact .head _ | refine .tail _ ?_ | refine List.mem_append_right _ ?_))) rfl) rfl rfl rfl ?_
                refine ga_branch (rs := [0, 7]) (by kernel_rfl) rfl (.cons (ls' := [true, false, true, true, true, true, true, false, false, false, false, false, false, false, false, false]) rfl rfl ?_ (.cons (ls' := [false, false, true, true, true, true, true, true, false, false, false, false, false, false, false, false]) rfl rfl ?_ .nil))
                · skip
                  refine gs_val (val_loadA kag31 rfl (sees_mem (by repeat (first | exact .head _ | refine .tail _ ?_ | refine List.mem_append_right _ ?_))) rfl rfl) rfl rfl rfl ?_
                  refine gx_env (F := [(0, _), (1, _), (2, _), (4, _), (6, _), (7, _), (8, _), (9, _), (12, _), (13, _), (14, _), (15, _), (16, _), (17, _), (18, _), (19, _), (20, _), (21, _), (22, _), (23, _), (24, _), (25, _), (26, _), (27, _), (28, _), (29, _), (30, _), (31, _), (32, _), (33, _), (34, _), (35, _), (36, _), (37, _), (39, _), (41, _), (42, _), (43, _), (44, _), (45, _)]) (.cons rfl (.cons rfl (.cons rfl (.cons rfl (.cons rfl (.cons rfl (.cons rfl (.cons rfl (.cons rfl (.cons rfl (.cons rfl (.cons rfl (.cons rfl (.cons rfl (.cons rfl (.cons rfl (.cons rfl (.cons rfl (.cons rfl (.cons rfl (.cons rfl (.cons rfl (.cons rfl (.cons rfl (.cons rfl (.cons rfl (.cons rfl (.cons rfl (.cons rfl (.cons rfl (.cons rfl (.cons rfl (.cons rfl (.cons rfl (.cons rfl (.cons rfl (.cons rfl (.cons rfl (.cons rfl (.cons rfl .nil)))))))))))))))))))))))))))))))))))))))) (gx_perm (by first | exact .refl _ | (repeat (first | exact .refl _ | refine perm_take (by first | exact .head | exact .tail .head | exact .tail (.tail .head) | exact .tail (.tail (.tail .head)) | exact .tail (.tail (.tail (.tail .head))) | exact .tail (.tail (.tail (.tail (.tail .head))))) ?_ | refine perm_takeL (by repeat (first | exact .app | exact .here | apply TakeL.tail | apply TakeL.appr)) ?_ | refine perm_takeX (by repeat (first | exact .cons .head .nil | apply TakeL.tail | apply TakeL.appr)) ?_))) (hD5  True.intro))
                · skip
                  refine gs_val (val_indexRow (m := i) ksl173 rfl rfl rfl hil (htw.own.look (by repeat (first | exact .here | exact .headR | exact .app | refine .tail ?_ | refine .appr ?_))) hil) rfl rfl rfl ?_
                  refine ga_take (i := 8) (ls' := [false, false, true, true, true, true, true, true, true, false, false, false, false, false, false, false]) rfl (by kernel_rfl) rfl (fun _ _ _ => val_fieldAddr kfo70_2 rfl) rfl rfl rfl ?_
                  refine ga_branch (rs := [0, 9]) (by kernel_rfl) rfl (.cons (ls' := [true, false, true, true, true, true, true, true, true, false, false, false, false, false, false, false]) rfl rfl ?_ (.cons (ls' := [false, false, true, true, true, true, true, true, true, true, false, false, false, false, false, false]) rfl rfl ?_ .nil))
                  · skip
                    refine gs_val (val_loadA kag31 rfl (sees_mem (by repeat (first | exact .head _ | refine .tail _ ?_ | refine List.mem_append_right _ ?_))) rfl rfl) rfl rfl rfl ?_
                    refine gx_env (F := [(0, _), (1, _), (2, _), (4, _), (6, _), (7, _), (8, _), (9, _), (12, _), (13, _), (14, _), (15, _), (16, _), (17, _), (18, _), (19, _), (20, _), (21, _), (22, _), (23, _), (24, _), (25, _), (26, _), (27, _), (28, _), (29, _), (30, _), (31, _), (32, _), (33, _), (34, _), (35, _), (36, _), (37, _), (39, _), (41, _), (42, _), (43, _), (44, _), (45, _), (46, _), (47, _)]) (.cons rfl (.cons rfl (.cons rfl (.cons rfl (.cons rfl (.cons rfl (.cons rfl (.cons rfl (.cons rfl (.cons rfl (.cons rfl (.cons rfl (.cons rfl (.cons rfl (.cons rfl (.cons rfl (.cons rfl (.cons rfl (.cons rfl (.cons rfl (.cons rfl (.cons rfl (.cons rfl (.cons rfl (.cons rfl (.cons rfl (.cons rfl (.cons rfl (.cons rfl (.cons rfl (.cons rfl (.cons rfl (.cons rfl (.cons rfl (.cons rfl (.cons rfl (.cons rfl (.cons rfl (.cons rfl (.cons rfl (.cons rfl (.cons rfl .nil)))))))))))))))))))))))))))))))))))))))))) (gx_perm (by first | exact .refl _ | (repeat (first | exact .refl _ | refine perm_take (by first | exact .head | exact .tail .head | exact .tail (.tail .head) | exact .tail (.tail (.tail .head)) | exact .tail (.tail (.tail (.tail .head))) | exact .tail (.tail (.tail (.tail (.tail .head))))) ?_ | refine perm_takeL (by repeat (first | exact .app | exact .here | apply TakeL.tail | apply TakeL.appr)) ?_ | refine perm_takeX (by repeat (first | exact .cons .head .nil | apply TakeL.tail | apply TakeL.appr)) ?_))) (hD3  True.intro))
                  · skip
                    refine gs_val (val_load1 kag54 rfl ((htw.own.look (by repeat (first | exact .here | exact .headR | exact .app | refine .tail ?_ | refine .appr ?_))).rowAt hil 9) rfl) rfl rfl rfl ?_
                    refine ga_branch (rs := [0]) (by kernel_rfl) rfl (.cons (ls' := [true, false, true, true, true, true, true, true, true, true, false, false, false, false, false, false]) rfl rfl ?_ .nil)
                    refine gs_val (val_loadA kag31 rfl (sees_mem (by repeat (first | exact .head _ | refine .tail _ ?_ | refine List.mem_append_right _ ?_))) rfl rfl) rfl rfl rfl ?_
                    refine gx_env (F := [(0, _), (1, _), (2, _), (4, _), (6, _), (7, _), (8, _), (9, _), (12, _), (13, _), (14, _), (15, _), (16, _), (17, _), (18, _), (19, _), (20, _), (21, _), (22, _), (23, _), (24, _), (25, _), (26, _), (27, _), (28, _), (29, _), (30, _), (31, _), (32, _), (33, _), (34, _), (35, _), (36, _), (37, _), (39, _), (41, _), (42, _), (43, _), (44, _), (45, _), (46, _), (47, _), (48, _)]) (.cons rfl (.cons rfl (.cons rfl (.cons rfl (.cons rfl (.cons rfl (.cons rfl (.cons rfl (.cons rfl (.cons rfl (.cons rfl (.cons rfl (.cons rfl (.cons rfl (.cons rfl (.cons rfl (.cons rfl (.cons rfl (.cons rfl (.cons rfl (.cons rfl (.cons rfl (.cons rfl (.cons rfl (.cons rfl (.cons rfl (.cons rfl (.cons rfl (.cons rfl (.cons rfl (.cons rfl (.cons rfl (.cons rfl (.cons rfl (.cons rfl (.cons rfl (.cons rfl (.cons rfl (.cons rfl (.cons rfl (.cons rfl (.cons rfl (.cons rfl .nil))))))))))))))))))))))))))))))))))))))))))) (gx_perm (by first | exact .refl _ | (repeat (first | exact .refl _ | refine perm_take (by first | exact .head | exact .tail .head | exact .tail (.tail .head) | exact .tail (.tail (.tail .head)) | exact .tail (.tail (.tail (.tail .head))) | exact .tail (.tail (.tail (.tail (.tail .head))))) ?_ | refine perm_takeL (by repeat (first | exact .app | exact .here | apply TakeL.tail | apply TakeL.appr)) ?_ | refine perm_takeX (by repeat (first | exact .cons .head .nil | apply TakeL.tail | apply TakeL.appr)) ?_))) (hD2  True.intro))
            · rintro  _
              refine ga_branch (rs := [1, 7]) (by kernel_rfl) rfl (.cons (ls' := [true, true, true, true, true, true, true, false, false, false, false, false, false, false, false, false]) rfl rfl ?_ (.cons (ls' := [true, false, true, true, true, true, true, true, false, false, false, false, false, false, false, false]) rfl rfl ?_ .nil))
              · skip
                refine gs_pure (enters kcall121 (.cons rfl .nil)) (key_spec d) rfl rfl rfl (fun _ _ => trivial) ?_
                refine gx_env (F := [(0, _), (1, _), (2, _), (4, _), (6, _), (7, _), (8, _), (9, _), (12, _), (13, _), (14, _), (15, _), (16, _), (17, _), (18, _), (19, _), (20, _), (21, _), (22, _), (23, _), (24, _), (25, _), (26, _), (27, _), (28, _), (29, _), (30, _), (31, _), (32, _), (33, _), (34, _), (35, _), (36, _), (37, _), (39, _), (40, _), (41, _), (42, _), (43, _), (44, _), (45, _)]) (.cons rfl (.cons rfl (.cons rfl (.cons rfl (.cons rfl (.cons rfl (.cons rfl (.cons rfl (.cons rfl (.cons rfl (.cons rfl (.cons rfl (.cons rfl (.cons rfl (.cons rfl (.cons rfl (.cons rfl (.cons rfl (.cons rfl (.cons rfl (.cons rfl (.cons rfl (.cons rfl (.cons rfl (.cons rfl (.cons rfl (.cons rfl (.cons rfl (.cons rfl (.cons rfl (.cons rfl (.cons rfl (.cons rfl (.cons rfl (.cons rfl (.cons rfl (.cons rfl (.cons rfl (.cons rfl (.cons rfl (.cons rfl .nil))))))))))))))))))))))))))))))))))))))))) (gx_perm (by first | exact .refl _ | (repeat (first | exact .refl _ | refine perm_take (by first | exact .head | exact .tail .head | exact .tail (.tail .head) | exact .tail (.tail (.tail .head)) | exact .tail (.tail (.tail (.tail .head))) | exact .tail (.tail (.tail (.tail (.tail .head))))) ?_ | refine perm_takeL (by repeat (first | exact .app | exact .here | apply TakeL.tail | apply TakeL.appr)) ?_ | refine perm_takeX (by repeat (first | exact .cons .head .nil | apply TakeL.tail | apply TakeL.appr)) ?_))) (hD4  True.intro))
              · skip
                refine gs_val (val_indexRow (m := i) ksl173 rfl rfl rfl hil (htw.own.look (by repeat (first | exact .here | exact .headR | exact .app | refine .tail ?_ | refine .appr ?_))) hil) rfl rfl rfl ?_
                refine ga_take (i := 8) (ls' := [true, false, true, true, true, true, true, true, true, false, false, false, false, false, false, false]) rfl (by kernel_rfl) rfl (fun _ _ _ => val_fieldAddr kfo70_2 rfl) rfl rfl rfl ?_
                refine gx_env (F := [(0, _), (1, _), (2, _), (4, _), (6, _), (7, _), (8, _), (9, _), (12, _), (13, _), (14, _), (15, _), (16, _), (17, _), (18, _), (19, _), (20, _), (21, _), (22, _), (23, _), (24, _), (25, _), (26, _), (27, _), (28, _), (29, _), (30, _), (31, _), (32, _), (33, _), (34, _), (35, _), (36, _), (37, _), (39, _), (41, _), (42, _), (43, _), (44, _), (45, _), (46, _), (47, _)]) (.cons rfl (.cons rfl (.cons rfl (.cons rfl (.cons rfl (.cons rfl (.cons rfl (.cons rfl (.cons rfl (.cons rfl (.cons rfl (.cons rfl (.cons rfl (.cons rfl (.cons rfl (.cons rfl (.cons rfl (.cons rfl (.cons rfl (.cons rfl (.cons rfl (.cons rfl (.cons rfl (.cons rfl (.cons rfl (.cons rfl (.cons rfl (.cons rfl (.cons rfl (.cons rfl (.cons rfl (.cons rfl (.cons rfl (.cons rfl (.cons rfl (.cons rfl (.cons rfl (.cons rfl (.cons rfl (.cons rfl (.cons rfl (.cons rfl .nil)))))))))))))))))))))))))))))))))))))))))) (gx_perm (by first | exact .refl _ | (repeat (first | exact .refl _ | refine perm_take (by first | exact .head | exact .tail .head | exact .tail (.tail .head) | exact .tail (.tail (.tail .head)) | exact .tail (.tail (.tail (.tail .head))) | exact .tail (.tail (.tail (.tail (.tail .head))))) ?_ | refine perm_takeL (by repeat (first | exact .app | exact .here | apply TakeL.tail | apply TakeL.appr)) ?_ | refine perm_takeX (by repeat (first | exact .cons .head .nil | apply TakeL.tail | apply TakeL.appr)) ?_))) (hD3  True.intro))
          · rintro  _
            refine ga_branch (rs := [7]) (by kernel_rfl) rfl (.cons (ls' := [true, true, true, true, true, true, true, true, false, false, false, false, false, false, false, false]) rfl rfl ?_ .nil)
            refine gs_val (val_indexRow (m := i) ksl173 rfl rfl rfl hil (htw.own.look (by repeat (first | exact .here | exact .headR | exact .app | refine .tail ?_ | refine .appr ?_))) hil) rfl rfl rfl ?_
            refine ga_take (i := 8) (ls' := [true, true, true, true, true, true, true, true, true, false, false, false, false, false, false, false]) rfl (by kernel_rfl) rfl (fun _ _ _ => val_fieldAddr kfo70_2 rfl) rfl rfl rfl ?_
            refine gx_env (F := [(0, _), (1, _), (2, _), (4, _), (6, _), (7, _), (8, _), (9, _), (12, _), (13, _), (14, _), (15, _), (16, _), (17, _), (18, _), (19, _), (20, _), (21, _), (22, _), (23, _), (24, _), (25, _), (26, _), (27, _), (28, _), (29, _), (30, _), (31, _), (32, _), (33, _), (34, _), (35, _), (36, _), (37, _), (39, _), (40, _), (41, _), (42, _), (43, _), (44, _), (45, _), (46, _), (47, _)]) (.cons rfl (.cons rfl (.cons rfl (.cons rfl (.cons rfl (.cons rfl (.cons rfl (.cons rfl (.cons rfl (.cons rfl (.cons rfl (.cons rfl (.cons rfl (.cons rfl (.cons rfl (.cons rfl (.cons rfl (.cons rfl (.cons rfl (.cons rfl (.cons rfl (.cons rfl (.cons rfl (.cons rfl (.cons rfl (.cons rfl (.cons rfl (.cons rfl (.cons rfl (.cons rfl (.cons rfl (.cons rfl (.cons rfl (.cons rfl (.cons rfl (.cons rfl (.cons rfl (.cons rfl (.cons rfl (.cons rfl (.cons rfl (.cons rfl (.cons rfl .nil))))))))))))))))))))))))))))))))))))))))))) (gx_perm (by first | exact .refl _ | (repeat (first | exact .refl _ | refine perm_take (by first | exact .head | exact .tail .head | exact .tail (.tail .head) | exact .tail (.tail (.tail .head)) | exact .tail (.tail (.tail (.tail .head))) | exact .tail (.tail (.tail (.tail (.tail .head))))) ?_ | refine perm_takeL (by repeat (first | exact .app | exact .here | apply TakeL.tail | apply TakeL.appr)) ?_ | refine perm_takeX (by repeat (first | exact .cons .head .nil | apply TakeL.tail | apply TakeL.appr)) ?_))) (hD1  True.intro))
        · rintro  _
          refine ga_branch (rs := [1, 9]) (by kernel_rfl) rfl (.cons (ls' := [true, true, true, true, true, true, true, true, true, false, false, false, false, false, false, false]) rfl rfl ?_ (.cons (ls' := [true, false, true, true, true, true, true, true, true, true, false, false, false, false, false, false]) rfl rfl ?_ .nil))
          · skip
            refine gs_pure (enters kcall121 (.cons rfl .nil)) (key_spec d) rfl rfl rfl (fun _ _ => trivial) ?_
            refine gx_env (F := [(0, _), (1, _), (2, _), (4, _), (6, _), (7, _), (8, _), (9, _), (12, _), (13, _), (14, _), (15, _), (16, _), (17, _), (18, _), (19, _), (20, _), (21, _), (22, _), (23, _), (24, _), (25, _), (26, _), (27, _), (28, _), (29, _), (30, _), (31, _), (32, _), (33, _), (34, _), (35, _), (36, _), (37, _), (39, _), (40, _), (41, _), (42, _), (43, _), (44, _), (45, _), (46, _), (47, _)]) (.cons rfl (.cons rfl (.cons rfl (.cons rfl (.cons rfl (.cons rfl (.cons rfl (.cons rfl (.cons rfl (.cons rfl (.cons rfl (.cons rfl (.cons rfl (.cons rfl (.cons rfl (.cons rfl (.cons rfl (.cons rfl (.cons rfl (.cons rfl (.cons rfl (.cons rfl (.cons rfl (.cons rfl (.cons rfl (.cons rfl (.cons rfl (.cons rfl (.cons rfl (.cons rfl (.cons rfl (.cons rfl (.cons rfl (.cons rfl (.cons rfl (.cons rfl (.cons rfl (.cons rfl (.cons rfl (.cons rfl (.cons rfl (.cons rfl (.cons rfl .nil))))))))))))))))))))))))))))))))))))))))))) (gx_perm (by first | exact .refl _ | (repeat (first | exact .refl _ | refine perm_take (by first | exact .head | exact .tail .head | exact .tail (.tail .head) | exact .tail (.tail (.tail .head)) | exact .tail (.tail (.tail (.tail .head))) | exact .tail (.tail (.tail (.tail (.tail .head))))) ?_ | refine perm_takeL (by repeat (first | exact .app | exact .here | apply TakeL.tail | apply TakeL.appr)) ?_ | refine perm_takeX (by repeat (first | exact .cons .head .nil | apply TakeL.tail | apply TakeL.appr)) ?_))) (hD1  True.intro))
          · skip
            refine gs_val (val_load1 kag54 rfl ((htw.own.look (by repeat (first | exact .here | exact .headR | exact .app | refine .tail ?_ | refine .appr ?_))).rowAt hil 9) rfl) rfl rfl rfl ?_
            refine gx_env (F := [(0, _), (1, _), (2, _), (4, _), (6, _), (7, _), (8, _), (9, _), (12, _), (13, _), (14, _), (15, _), (16, _), (17, _), (18, _), (19, _), (20, _), (21, _), (22, _), (23, _), (24, _), (25, _), (26, _), (27, _), (28, _), (29, _), (30, _), (31, _), (32, _), (33, _), (34, _), (35, _), (36, _), (37, _), (39, _), (41, _), (42, _), (43, _), (44, _), (45, _), (46, _), (47, _), (48, _)]) (.cons rfl (.cons rfl (.cons rfl (.cons rfl (.cons rfl (.cons rfl (.cons rfl (.cons rfl (.cons rfl (.cons rfl (.cons rfl (.cons rfl (.cons rfl (.cons rfl (.cons rfl (.cons rfl (.cons rfl (.cons rfl (.cons rfl (.cons rfl (.cons rfl (.cons rfl (.cons rfl (.cons rfl (.cons rfl (.cons rfl (.cons rfl (.cons rfl (.cons rfl (.cons rfl (.cons rfl (.cons rfl (.cons rfl (.cons rfl (.cons rfl (.cons rfl (.cons rfl (.cons rfl (.cons rfl (.cons rfl (.cons rfl (.cons rfl (.cons rfl .nil))))))))))))))))))))))))))))))))))))))))))) (gx_perm (by first | exact .refl _ | (repeat (first | exact .refl _ | refine perm_take (by first | exact .head | exact .tail .head | exact .tail (.tail .head) | exact .tail (.tail (.tail .head)) | exact .tail (.tail (.tail (.tail .head))) | exact .tail (.tail (.tail (.tail (.tail .head))))) ?_ | refine perm_takeL (by repeat (first | exact .app | exact .here | apply TakeL.tail | apply TakeL.appr)) ?_ | refine perm_takeX (by repeat (first | exact .cons .head .nil | apply TakeL.tail | apply TakeL.appr)) ?_))) (hD2  True.intro))
      · rintro  _
        refine ga_branch (rs := [1]) (by kernel_rfl) rfl (.cons (ls' := [true, true, true, true, true, true, true, true, true, true, false, false, false, false, false, false]) rfl rfl ?_ .nil)
        refine gs_pure (enters kcall121 (.cons rfl .nil)) (key_spec d) rfl rfl rfl (fun _ _ => trivial) ?_
        refine gx_env (F := [(0, _), (1, _), (2, _), (4, _), (6, _), (7, _), (8, _), (9, _), (12, _), (13, _), (14, _), (15, _), (16, _), (17, _), (18, _), (19, _), (20, _), (21, _), (22, _), (23, _), (24, _), (25, _), (26, _), (27, _), (28, _), (29, _), (30, _), (31, _), (32, _), (33, _), (34, _), (35, _), (36, _), (37, _), (39, _), (40, _), (41, _), (42, _), (43, _), (44, _), (45, _), (46, _), (47, _), (48, _)]) (.cons rfl (.cons rfl (.cons rfl (.cons rfl (.cons rfl (.cons rfl (.cons rfl (.cons rfl (.cons rfl (.cons rfl (.cons rfl (.cons rfl (.cons rfl (.cons rfl (.cons rfl (.cons rfl (.cons rfl (.cons rfl (.cons rfl (.cons rfl (.cons rfl (.cons rfl (.cons rfl (.cons rfl (.cons rfl (.cons rfl (.cons rfl (.cons rfl (.cons rfl (.cons rfl (.cons rfl (.cons rfl (.cons rfl (.cons rfl (.cons rfl (.cons rfl (.cons rfl (.cons rfl (.cons rfl (.cons rfl (.cons rfl (.cons rfl (.cons rfl (.cons rfl .nil)))))))))))))))))))))))))))))))))))))))))))) (gx_perm (by first | exact .refl _ | (repeat (first | exact .refl _ | refine perm_take (by first | exact .head | exact .tail .head | exact .tail (.tail .head) | exact .tail (.tail (.tail .head)) | exact .tail (.tail (.tail (.tail .head))) | exact .tail (.tail (.tail (.tail (.tail .head))))) ?_ | refine perm_takeL (by repeat (first | exact .app | exact .here | apply TakeL.tail | apply TakeL.appr)) ?_ | refine perm_takeX (by repeat (first | exact .cons .head .nil | apply TakeL.tail | apply TakeL.appr)) ?_))) (hD0  True.intro))
    · rintro  _
      refine ga_branch (rs := [9]) (by kernel_rfl) rfl (.cons (ls' := [true, true, true, true, true, true, true, true, true, true, false, false, false, false, false, false]) rfl rfl ?_ .nil)
      refine gs_val (val_load1 kag54 rfl ((htw.own.look (by repeat (first | exact .here | exact .headR | exact .app | refine .tail ?_ | refine .appr ?_))).rowAt hil 9) rfl) rfl rfl rfl ?_
      refine gx_env (F := [(0, _), (1, _), (2, _), (4, _), (6, _), (7, _), (8, _), (9, _), (12, _), (13, _), (14, _), (15, _), (16, _), (17, _), (18, _), (19, _), (20, _), (21, _), (22, _), (23, _), (24, _), (25, _), (26, _), (27, _), (28, _), (29, _), (30, _), (31, _), (32, _), (33, _), (34, _), (35, _), (36, _), (37, _), (39, _), (40, _), (41, _), (42, _), (43, _), (44, _), (45, _), (46, _), (47, _), (48, _)]) (.cons rfl (.cons rfl (.cons rfl (.cons rfl (.cons rfl (.cons rfl (.cons rfl (.cons rfl (.cons rfl (.cons rfl (.cons rfl (.cons rfl (.cons rfl (.cons rfl (.cons rfl (.cons rfl (.cons rfl (.cons rfl (.cons rfl (.cons rfl (.cons rfl (.cons rfl (.cons rfl (.cons rfl (.cons rfl (.cons rfl (.cons rfl (.cons rfl (.cons rfl (.cons rfl (.cons rfl (.cons rfl (.cons rfl (.cons rfl (.cons rfl (.cons rfl (.cons rfl (.cons rfl (.cons rfl (.cons rfl (.cons rfl (.cons rfl (.cons rfl (.cons rfl .nil)))))))))))))))))))))))))))))))))))))))))))) (gx_perm (by first | exact .refl _ | (repeat (first | exact .refl _ | refine perm_take (by first | exact .head | exact .tail .head | exact .tail (.tail .head) | exact .tail (.tail (.tail .head)) | exact .tail (.tail (.tail (.tail .head))) | exact .tail (.tail (.tail (.tail (.tail .head))))) ?_ | refine perm_takeL (by repeat (first | exact .app | exact .here | apply TakeL.tail | apply TakeL.appr)) ?_ | refine perm_takeX (by repeat (first | exact .cons .head .nil | apply TakeL.tail | apply TakeL.appr)) ?_))) (hD0  True.intro))
  · rintro  _
    refine ga_branch (rs := [10]) (by kernel_rfl) rfl (.cons (ls' := [true, true, true, true, true, true, true, true, true, true, true, false, false, false, false, false]) rfl rfl ?_ .nil)
    refine gs_makes (enters kcall122 (.cons rfl (.cons rfl .nil))) (open_spec (keyW d) ml[i].ba ml[i].bl.length ml[i].c ml[i].bl rfl (by omega) hcap) rfl rfl rfl (row_of_sees (hbox.sees (fun w hi => hi.sub (.cons _ (.cons _ (.cons _ (List.sublist_append_right _ _))))))) (fun ⟨ob, oc, oN⟩ ho' => ?_)
    refine ga_take (i := 11) (ls' := [true, true, true, true, true, true, true, true, true, true, true, true, false, false, false, false]) rfl (by kernel_rfl) rfl (fun _ _ _ => val_move rfl) rfl rfl rfl ?_
    refine ga_take (i := 12) (ls' := [true, true, true, true, true, true, true, true, true, true, true, true, true, false, false, false]) rfl (by kernel_rfl) rfl (fun _ _ _ => val_extract rfl rfl) rfl rfl rfl ?_
    refine ga_take (i := 13) (ls' := [true, true, true, true, true, true, true, true, true, true, true, true, true, true, false, false]) rfl (by kernel_rfl) rfl (fun _ _ _ => val_extract rfl rfl) rfl rfl rfl ?_
    refine ga_take (i := 14) (ls' := [true, true, true, true, true, true, true, true, true, true, true, true, true, true, true, false]) rfl (by kernel_rfl) rfl (fun _ _ _ => val_assign rfl) rfl rfl rfl ?_
    refine ga_take (i := 15) (ls' := [true, true, true, true, true, true, true, true, true, true, true, true, true, true, true, true]) rfl (by kernel_rfl) rfl (fun _ _ _ => val_assign rfl) rfl rfl rfl ?_
    refine ga_done (by kernel_rfl) ?_
    refine gk_seq ?_
    refine gc_seq ?_
    refine gc_seq ?_
    refine gc_region ?_
    refine gl_cons (gs_val (val_move rfl) rfl rfl rfl ?_)
    refine gl_cons (gs_val (val_no (val_neq rfl rfl) (fun h => h he)) rfl rfl rfl ?_)
    refine gl_nil ?_
    refine gk_seq ?_
    refine gc_false rfl ?_
    refine gc_skip ?_
    refine gk_seq ?_
    refine gc_seq ?_
    refine gc_region ?_
    refine gl_cons (gs_val (val_move rfl) rfl rfl rfl ?_)
    refine gl_cons (gs_val (val_assign rfl) rfl rfl rfl ?_)
    refine gl_cons (gs_val (val_assign rfl) rfl rfl rfl ?_)
    refine gl_nil ?_
    refine gk_seq ?_
    refine gc_ret ?_
    refine gk_ret rfl (resv_tmp rfl (resv_tmp rfl .nil)) (M := oN ++ (TWL 175 bt room (some ⟨lb, 0, none⟩) ml.length c mb clk rows NS NB)) (List.Sublist.append_left (.cons _ (List.Sublist.refl _)) oN) ?_
    exact ⟨(ob, oc, oN), ho', rfl, rfl⟩

end Go.Proofs.Ytddckbhlfeegoaa
