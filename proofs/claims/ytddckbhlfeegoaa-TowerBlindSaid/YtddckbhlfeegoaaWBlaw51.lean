/- The walk of functions of the program: what each computes, for every input. -/
import Derived.Test.YtddckbhlfeegoaaWBFacts
import Derived.Test.YtddckbhlfeegoaaWBtower3
namespace Go.Proofs.Ytddckbhlfeegoaa
open Go Go.Eng
set_option linter.unusedVariables false
set_option linter.unusedSimpArgs false

theorem see_own (bt room : Nat) (ml : List Am) (lb : Nat) (c mb clk : Nat) (rows : List MRow) (NS NB : List Ent) (htw : TWm 70 ml (some ⟨lb, 0, none⟩) c rows NS NB) (d : BitVec 64) (base : Int) (i : Nat) (hil : i < ml.length) (hix : ixA (hintW d) (ml.map Am.app) = some i) (cl : List UInt8) (hbl : ml[i].bl = sealL (keyW d) cl) (hc : cl.length ≤ 32768) (ho : base < ml[i].nb) : Turns Try.prog 40 ([.pointer (some ⟨bt, 0, none⟩), Dig d, I64 base]).toArray (fun _ => True) (TWL 175 bt room (some ⟨lb, 0, none⟩) ml.length c mb clk rows NS NB) (fun s : Option Addr × Nat × List Ent => Own 5 1 s.1 cl.length s.2.1 (cl.map U8) s.2.2) (fun s => .tuple #[.slice s.1 cl.length s.2.1, .bool true]) (fun s => s.2.2 ++ TWL 175 bt room (some ⟨lb, 0, none⟩) ml.length c mb clk rows NS NB) := by
  have e : openL (keyW d) ml[i].bl = cl := by rw [hbl, openL_seal _ _ (by omega)]
  have := see_yes bt room ml lb c mb clk rows NS NB htw d base i hil hix ho (by rw [hbl, seal_len _ _ (by omega)]; omega) (by rw [hbl, openE_seal _ _ (by omega)])
  rw [e] at this
  exact this

/-- (*baize/tower.Tower).Drop -/
theorem dropT_nil (d : BitVec 64) : Pure Try.prog 42 ([.pointer none, Dig d]).toArray (fun _ => True) (.bool false) := by
  refine spec_walk (n := 60) Try.func42 rfl rfl rfl (fun w0 hpre => ?_)
  refine gc_seq ?_
  refine gc_region ?_
  refine gl_cons (gs_box rfl rfl rfl rfl (fun b3 => ?_))
  refine gl_cons (gs_val (val_assign rfl) rfl rfl rfl ?_)
  refine gl_nil ?_
  refine gk_seq ?_
  refine gc_seq ?_
  refine gc_seq ?_
  refine gc_region ?_
  refine gl_cons (gs_val (val_move rfl) rfl rfl rfl ?_)
  refine gl_cons (gs_val (val_eqlNil kun66 rfl rfl) rfl rfl rfl ?_)
  refine gl_nil ?_
  refine gk_seq ?_
  refine gc_true rfl ?_
  refine gc_seq ?_
  refine gc_region ?_
  refine gl_cons (gs_val (val_assign rfl) rfl rfl rfl ?_)
  refine gl_nil ?_
  refine gk_seq ?_
  refine gc_ret ?_
  refine gk_seq_ret ?_
  refine gk_ret rfl (resv_tmp rfl .nil) (List.nil_sublist _) ?_
  exact ⟨rfl, rfl⟩

/-- (*baize/tower.Tower).Has -/
theorem hasT_nil  : Pure Try.prog 43 ([.pointer none]).toArray (fun _ => True) (nilS) := by
  refine spec_walk (n := 24) Try.func43 rfl rfl rfl (fun w0 hpre => ?_)
  refine gc_seq ?_
  refine gc_region ?_
  refine gl_cons (gs_val (val_assign rfl) rfl rfl rfl ?_)
  refine gl_nil ?_
  refine gk_seq ?_
  refine gc_seq ?_
  refine gc_seq ?_
  refine gc_region ?_
  refine gl_cons (gs_val (val_move rfl) rfl rfl rfl ?_)
  refine gl_cons (gs_val (val_eqlNil kun66 rfl rfl) rfl rfl rfl ?_)
  refine gl_nil ?_
  refine gk_seq ?_
  refine gc_true rfl ?_
  refine gc_seq ?_
  refine gc_region ?_
  refine gl_cons (gs_val (val_assign rfl) rfl rfl rfl ?_)
  refine gl_nil ?_
  refine gk_seq ?_
  refine gc_ret ?_
  refine gk_seq_ret ?_
  refine gk_ret rfl (resv_tmp rfl .nil) (List.nil_sublist _) ?_
  exact ⟨rfl, rfl⟩

/-- (*baize/tower.Tower).Size -/
theorem sizeT_nil  : Pure Try.prog 44 ([.pointer none]).toArray (fun _ => True) (I64 0) := by
  refine spec_walk (n := 24) Try.func44 rfl rfl rfl (fun w0 hpre => ?_)
  refine gc_seq ?_
  refine gc_region ?_
  refine gl_cons (gs_val (val_assign rfl) rfl rfl rfl ?_)
  refine gl_nil ?_
  refine gk_seq ?_
  refine gc_seq ?_
  refine gc_seq ?_
  refine gc_region ?_
  refine gl_cons (gs_val (val_move rfl) rfl rfl rfl ?_)
  refine gl_cons (gs_val (val_eqlNil kun66 rfl rfl) rfl rfl rfl ?_)
  refine gl_nil ?_
  refine gk_seq ?_
  refine gc_true rfl ?_
  refine gc_seq ?_
  refine gc_region ?_
  refine gl_cons (gs_val (val_assign rfl) rfl rfl rfl ?_)
  refine gl_nil ?_
  refine gk_seq ?_
  refine gc_ret ?_
  refine gk_seq_ret ?_
  refine gk_ret rfl (resv_tmp rfl .nil) (List.nil_sublist _) ?_
  exact ⟨rfl, rfl⟩

/-- (*baize/tower.Tower).Clone -/
theorem cloneT_nil  : Pure Try.prog 45 ([.pointer none]).toArray (fun _ => True) (.pointer none) := by
  refine spec_walk (n := 41) Try.func45 rfl rfl rfl (fun w0 hpre => ?_)
  refine gc_seq ?_
  refine gc_region ?_
  refine gl_cons (gs_val (val_assign rfl) rfl rfl rfl ?_)
  refine gl_nil ?_
  refine gk_seq ?_
  refine gc_seq ?_
  refine gc_seq ?_
  refine gc_region ?_
  refine gl_cons (gs_val (val_move rfl) rfl rfl rfl ?_)
  refine gl_cons (gs_val (val_eqlNil kun66 rfl rfl) rfl rfl rfl ?_)
  refine gl_nil ?_
  refine gk_seq ?_
  refine gc_true rfl ?_
  refine gc_seq ?_
  refine gc_region ?_
  refine gl_cons (gs_val (val_assign rfl) rfl rfl rfl ?_)
  refine gl_nil ?_
  refine gk_seq ?_
  refine gc_ret ?_
  refine gk_seq_ret ?_
  refine gk_ret rfl (resv_tmp rfl .nil) (List.nil_sublist _) ?_
  exact ⟨rfl, rfl⟩

/-- (*baize/tower.Tower).Same -/
theorem sameT_nn  : Pure Try.prog 46 ([.pointer none, .pointer none]).toArray (fun _ => True) (.bool true) := by
  refine spec_walk (n := 37) Try.func46 rfl rfl rfl (fun w0 hpre => ?_)
  refine gc_seq ?_
  refine gc_region ?_
  refine gl_cons (gs_val (val_assign rfl) rfl rfl rfl ?_)
  refine gl_nil ?_
  refine gk_seq ?_
  refine gc_seq ?_
  refine gc_seq ?_
  refine gc_region ?_
  refine gl_cons (gs_val (val_move rfl) rfl rfl rfl ?_)
  refine gl_cons (gs_val (val_eqlNil kun66 rfl rfl) rfl rfl rfl ?_)
  refine gl_cons (gs_val (val_move rfl) rfl rfl rfl ?_)
  refine gl_cons (gs_skip rfl rfl rfl ?_)
  refine gl_cons (gs_skip rfl rfl rfl ?_)
  refine gl_cons (gs_val (val_pick_t rfl rfl) rfl rfl rfl ?_)
  refine gl_nil ?_
  refine gk_seq ?_
  refine gc_true rfl ?_
  refine gc_seq ?_
  refine gc_region ?_
  refine gl_cons (gs_val (val_move rfl) rfl rfl rfl ?_)
  refine gl_cons (gs_val (val_eqlNil kun66 rfl rfl) rfl rfl rfl ?_)
  refine gl_cons (gs_val (val_move rfl) rfl rfl rfl ?_)
  refine gl_cons (gs_val (val_move rfl) rfl rfl rfl ?_)
  refine gl_cons (gs_val (val_eqlNil kun66 rfl rfl) rfl rfl rfl ?_)
  refine gl_cons (gs_val (val_pick_t rfl rfl) rfl rfl rfl ?_)
  refine gl_cons (gs_val (val_assign rfl) rfl rfl rfl ?_)
  refine gl_nil ?_
  refine gk_seq ?_
  refine gc_ret ?_
  refine gk_seq_ret ?_
  refine gk_ret rfl (resv_tmp rfl .nil) (List.nil_sublist _) ?_
  exact ⟨rfl, rfl⟩

/-- (*baize/tower.Tower).Same -/
theorem sameT_nc (bt : Nat) : Pure Try.prog 46 ([.pointer none, .pointer (some ⟨bt, 0, none⟩)]).toArray (fun _ => True) (.bool false) := by
  refine spec_walk (n := 37) Try.func46 rfl rfl rfl (fun w0 hpre => ?_)
  refine gc_seq ?_
  refine gc_region ?_
  refine gl_cons (gs_val (val_assign rfl) rfl rfl rfl ?_)
  refine gl_nil ?_
  refine gk_seq ?_
  refine gc_seq ?_
  refine gc_seq ?_
  refine gc_region ?_
  refine gl_cons (gs_val (val_move rfl) rfl rfl rfl ?_)
  refine gl_cons (gs_val (val_eqlNil kun66 rfl rfl) rfl rfl rfl ?_)
  refine gl_cons (gs_val (val_move rfl) rfl rfl rfl ?_)
  refine gl_cons (gs_skip rfl rfl rfl ?_)
  refine gl_cons (gs_skip rfl rfl rfl ?_)
  refine gl_cons (gs_val (val_pick_t rfl rfl) rfl rfl rfl ?_)
  refine gl_nil ?_
  refine gk_seq ?_
  refine gc_true rfl ?_
  refine gc_seq ?_
  refine gc_region ?_
  refine gl_cons (gs_val (val_move rfl) rfl rfl rfl ?_)
  refine gl_cons (gs_val (val_eqlNil kun66 rfl rfl) rfl rfl rfl ?_)
  refine gl_cons (gs_val (val_move rfl) rfl rfl rfl ?_)
  refine gl_cons (gs_val (val_move rfl) rfl rfl rfl ?_)
  refine gl_cons (gs_val (val_eqlNil kun66 rfl rfl) rfl rfl rfl ?_)
  refine gl_cons (gs_val (val_pick_t rfl rfl) rfl rfl rfl ?_)
  refine gl_cons (gs_val (val_assign rfl) rfl rfl rfl ?_)
  refine gl_nil ?_
  refine gk_seq ?_
  refine gc_ret ?_
  refine gk_seq_ret ?_
  refine gk_ret rfl (resv_tmp rfl .nil) (List.nil_sublist _) ?_
  exact ⟨rfl, rfl⟩

/-- (*baize/tower.Tower).Same -/
theorem sameT_cn (bt : Nat) : Pure Try.prog 46 ([.pointer (some ⟨bt, 0, none⟩), .pointer none]).toArray (fun _ => True) (.bool false) := by
  refine spec_walk (n := 37) Try.func46 rfl rfl rfl (fun w0 hpre => ?_)
  refine gc_seq ?_
  refine gc_region ?_
  refine gl_cons (gs_val (val_assign rfl) rfl rfl rfl ?_)
  refine gl_nil ?_
  refine gk_seq ?_
  refine gc_seq ?_
  refine gc_seq ?_
  refine gc_region ?_
  refine gl_cons (gs_val (val_move rfl) rfl rfl rfl ?_)
  refine gl_cons (gs_val (val_eqlNil kun66 rfl rfl) rfl rfl rfl ?_)
  refine gl_cons (gs_val (val_move rfl) rfl rfl rfl ?_)
  refine gl_cons (gs_val (val_move rfl) rfl rfl rfl ?_)
  refine gl_cons (gs_val (val_eqlNil kun66 rfl rfl) rfl rfl rfl ?_)
  refine gl_cons (gs_val (val_pick_f rfl rfl) rfl rfl rfl ?_)
  refine gl_nil ?_
  refine gk_seq ?_
  refine gc_true rfl ?_
  refine gc_seq ?_
  refine gc_region ?_
  refine gl_cons (gs_val (val_move rfl) rfl rfl rfl ?_)
  refine gl_cons (gs_val (val_eqlNil kun66 rfl rfl) rfl rfl rfl ?_)
  refine gl_cons (gs_val (val_move rfl) rfl rfl rfl ?_)
  refine gl_cons (gs_skip rfl rfl rfl ?_)
  refine gl_cons (gs_skip rfl rfl rfl ?_)
  refine gl_cons (gs_val (val_pick_f rfl rfl) rfl rfl rfl ?_)
  refine gl_cons (gs_val (val_assign rfl) rfl rfl rfl ?_)
  refine gl_nil ?_
  refine gk_seq ?_
  refine gc_ret ?_
  refine gk_seq_ret ?_
  refine gk_ret rfl (resv_tmp rfl .nil) (List.nil_sublist _) ?_
  exact ⟨rfl, rfl⟩

set_option maxRecDepth 8000 in
/-- baize/baizelaw51.told -/
theorem told51_spec  : Pure Try.prog 47 ([]).toArray (fun _ => True) (.bool true) := by
  have hsl : (sealL (keyW (5#64)) [7, 8]).length = 10 := seal_len _ _ (by decide)
  refine spec_walk (n := 78) Try.func47 rfl rfl rfl (fun w0 hpre => ?_)
  refine gc_seq ?_
  refine gc_region ?_
  refine gl_cons (gs_val (val_assign rfl) rfl rfl rfl ?_)
  refine gl_nil ?_
  refine gk_seq ?_
  refine gc_seq ?_
  refine gc_region ?_
  refine gl_cons (gs_val (val_cast (v := Dig 5#64) (val_buildArr kze31 kar31 (.cons rfl .nil) rfl (.cons rfl rfl rfl (by simp) (by first | ((with_reducible refine splice_all _ _ ?_); simp; done) | (simp only [splice, stL, digL, List.take_succ_cons, List.take_zero, List.drop_succ_cons, List.drop_zero, List.length_cons, List.length_nil, Nat.reduceAdd, Nat.reduceMul, Nat.zero_add, Nat.zero_mul, List.cons_append, List.nil_append]; exact rfl)) .nil)) rfl) rfl rfl rfl ?_)
  refine gl_cons (gs_alloc kze31 rfl rfl rfl (fun b1 => ?_))
  refine gl_cons (gs_store ksz31 rfl rfl rfl rfl rfl rfl (by first | exact .head | exact .tail .head | exact .tail (.tail .head) | exact .tail (.tail (.tail .head)) | exact .tail (.tail (.tail (.tail .head))) | exact .tail (.tail (.tail (.tail (.tail .head))))) (by simp) (by first | ((with_reducible refine splice_all _ _ ?_); simp; done) | (simp only [splice, stL, digL, List.take_succ_cons, List.take_zero, List.drop_succ_cons, List.drop_zero, List.length_cons, List.length_nil, Nat.reduceAdd, Nat.reduceMul, Nat.zero_add, Nat.zero_mul, List.cons_append, List.nil_append]; exact rfl)) ?_)
  refine gl_nil ?_
  refine gk_seq ?_
  refine gc_seq ?_
  refine gc_region ?_
  refine gl_cons (gs_val (val_loadA kag31 rfl (sees_mem (by repeat (first | exact .head _ | refine .tail _ ?_ | refine List.mem_append_right _ ?_))) rfl rfl) rfl rfl rfl ?_)
  refine gl_cons (gs_buildSlice (zs := [.int .u8 0, .int .u8 0]) ksl54 kze5 rfl rfl (.cons rfl (.cons rfl .nil)) (.cons rfl rfl rfl (by simp) (by first | ((with_reducible refine splice_all _ _ ?_); simp; done) | (simp only [splice, stL, digL, List.take_succ_cons, List.take_zero, List.drop_succ_cons, List.drop_zero, List.length_cons, List.length_nil, Nat.reduceAdd, Nat.reduceMul, Nat.zero_add, Nat.zero_mul, List.cons_append, List.nil_append]; exact rfl)) (.cons rfl rfl rfl (by simp) (by first | ((with_reducible refine splice_all _ _ ?_); simp; done) | (simp only [splice, stL, digL, List.take_succ_cons, List.take_zero, List.drop_succ_cons, List.drop_zero, List.length_cons, List.length_nil, Nat.reduceAdd, Nat.reduceMul, Nat.zero_add, Nat.zero_mul, List.cons_append, List.nil_append]; exact rfl)) .nil)) rfl rfl (fun b13 => ?_))
  refine gl_cons (gs_makes (enters kcall39 (.cons rfl (.cons rfl (.cons rfl .nil)))) (make_ok 5#64 3 (some ⟨b13, 0, none⟩) 2 2 [7, 8] rfl ⟨by omega, by omega⟩ (by omega) (by omega)) rfl rfl rfl (row_of_sees (sees_all (by repeat (first | exact .head _ | refine .tail _ ?_ | refine List.mem_append_right _ ?_)))) (fun ⟨xb, xc, xN, xe⟩ hx => ?_))
  have hx : Own xe 1 xb (sealL (keyW (5#64)) [7, 8]).length xc ((sealL (keyW (5#64)) [7, 8]).map U8) xN := hx
  refine gl_cons (gs_val (val_move rfl) rfl rfl rfl ?_)
  refine gl_cons (gs_val (val_extract rfl rfl) rfl rfl rfl ?_)
  refine gl_cons (gs_val (val_extract rfl rfl) rfl rfl rfl ?_)
  refine gl_cons (gs_alloc kze70 rfl rfl rfl (fun b2 => ?_))
  refine gl_cons (gs_store ksz70 rfl rfl rfl rfl rfl rfl (by first | exact .head | exact .tail .head | exact .tail (.tail .head) | exact .tail (.tail (.tail .head)) | exact .tail (.tail (.tail (.tail .head))) | exact .tail (.tail (.tail (.tail (.tail .head))))) (by simp) (by first | ((with_reducible refine splice_all _ _ ?_); simp; done) | (simp only [splice, stL, digL, List.take_succ_cons, List.take_zero, List.drop_succ_cons, List.drop_zero, List.length_cons, List.length_nil, Nat.reduceAdd, Nat.reduceMul, Nat.zero_add, Nat.zero_mul, List.cons_append, List.nil_append]; exact rfl)) ?_)
  refine gl_cons (gs_val (val_assign rfl) rfl rfl rfl ?_)
  refine gl_nil ?_
  refine gk_seq ?_
  refine gc_seq ?_
  refine gc_region ?_
  refine gl_cons (gs_makes (enters kcall38 (.cons rfl .nil)) (newT_ok 2 (by omega) (by omega)) rfl rfl rfl (fun _ _ => trivial) (fun ⟨bt, Ls⟩ ht => ?_))
  have ht : TW 175 70 bt 2 [] Ls := ht
  obtain ⟨la, c, mb, clk, rows, NS, NB, htw, rfl⟩ := tw_zero ht
  refine gl_cons (gs_val (val_move rfl) rfl rfl rfl ?_)
  refine gl_cons (gs_val (val_extract rfl rfl) rfl rfl rfl ?_)
  refine gl_cons (gs_val (val_extract rfl rfl) rfl rfl rfl ?_)
  refine gl_cons (gs_val (val_assign rfl) rfl rfl rfl ?_)
  refine gl_cons (gs_val (val_assign rfl) rfl rfl rfl ?_)
  refine gl_nil ?_
  refine gk_seq ?_
  refine gc_seq ?_
  refine gc_seq ?_
  refine ga_start (m := 35) (ls := [false, false, false, false, false, false, false, false, false, false, false, false, false, false, false, false, false, false, false, false, false, false, false, false, false, false, false, false, false, false, false, false, false, false, false]) kmixed rfl rfl ?_
  apply share0  (m' := 10) (ls' := [true, true, true, true, true, true, true, true, true, true, true, true, true, true, true, true, true, true, true, true, true, true, true, true, true, false, false, false, false, false, false, false, false, false, false])
  · intro hD0
    apply share0  (m' := 15) (ls' := [true, true, true, true, true, true, true, true, true, true, true, true, true, true, true, true, true, true, true, true, false, false, false, false, false, false, false, false, false, false, false, false, false, false, false])
    · intro hD1
      refine ga_take (i := 0) (ls' := [true, false, false, false, false, false, false, false, false, false, false, false, false, false, false, false, false, false, false, false, false, false, false, false, false, false, false, false, false, false, false, false, false, false, false]) rfl (by kernel_rfl) rfl (fun _ _ _ => val_move rfl) rfl rfl rfl ?_
      refine ga_take (i := 1) (ls' := [true, true, false, false, false, false, false, false, false, false, false, false, false, false, false, false, false, false, false, false, false, false, false, false, false, false, false, false, false, false, false, false, false, false, false]) rfl (by kernel_rfl) rfl (fun _ _ _ => val_eqlNil kun66 rfl rfl) rfl rfl rfl ?_
      refine ga_take (i := 2) (ls' := [true, true, true, false, false, false, false, false, false, false, false, false, false, false, false, false, false, false, false, false, false, false, false, false, false, false, false, false, false, false, false, false, false, false, false]) rfl (by kernel_rfl) rfl (fun _ _ _ => val_move rfl) rfl rfl rfl ?_
      refine ga_take (i := 3) (ls' := [true, true, true, true, false, false, false, false, false, false, false, false, false, false, false, false, false, false, false, false, false, false, false, false, false, false, false, false, false, false, false, false, false, false, false]) rfl (by kernel_rfl) rfl (fun _ _ _ => val_move rfl) rfl rfl rfl ?_
      refine ga_take (i := 4) (ls' := [true, true, true, true, true, false, false, false, false, false, false, false, false, false, false, false, false, false, false, false, false, false, false, false, false, false, false, false, false, false, false, false, false, false, false]) rfl (by kernel_rfl) rfl (fun _ _ _ => val_neq rfl rfl) rfl rfl rfl ?_
      refine ga_take (i := 5) (ls' := [true, true, true, true, true, true, false, false, false, false, false, false, false, false, false, false, false, false, false, false, false, false, false, false, false, false, false, false, false, false, false, false, false, false, false]) rfl (by kernel_rfl) rfl (fun _ _ _ => val_pick_f rfl rfl) rfl rfl rfl ?_
      refine ga_take (i := 6) (ls' := [true, true, true, true, true, true, true, false, false, false, false, false, false, false, false, false, false, false, false, false, false, false, false, false, false, false, false, false, false, false, false, false, false, false, false]) rfl (by kernel_rfl) rfl (fun _ _ _ => val_move rfl) rfl rfl rfl ?_
      refine ga_take (i := 7) (ls' := [true, true, true, true, true, true, true, true, false, false, false, false, false, false, false, false, false, false, false, false, false, false, false, false, false, false, false, false, false, false, false, false, false, false, false]) rfl (by kernel_rfl) rfl (fun _ _ _ => val_move rfl) rfl rfl rfl ?_
      refine ga_take (i := 8) (ls' := [true, true, true, true, true, true, true, true, true, false, false, false, false, false, false, false, false, false, false, false, false, false, false, false, false, false, false, false, false, false, false, false, false, false, false]) rfl (by kernel_rfl) rfl (fun _ _ _ => val_neq rfl rfl) rfl rfl rfl ?_
      refine ga_take (i := 9) (ls' := [true, true, true, true, true, true, true, true, true, true, false, false, false, false, false, false, false, false, false, false, false, false, false, false, false, false, false, false, false, false, false, false, false, false, false]) rfl (by kernel_rfl) rfl (fun _ _ _ => val_pick_f rfl rfl) rfl rfl rfl ?_
      refine ga_take (i := 10) (ls' := [true, true, true, true, true, true, true, true, true, true, true, false, false, false, false, false, false, false, false, false, false, false, false, false, false, false, false, false, false, false, false, false, false, false, false]) rfl (by kernel_rfl) rfl (fun _ _ _ => val_move rfl) rfl rfl rfl ?_
      refine ga_take (i := 11) (ls' := [true, true, true, true, true, true, true, true, true, true, true, true, false, false, false, false, false, false, false, false, false, false, false, false, false, false, false, false, false, false, false, false, false, false, false]) rfl (by kernel_rfl) rfl (fun _ _ _ => val_fieldAddr kfo70_2 rfl) rfl rfl rfl ?_
      refine ga_branch (rs := [12]) (by kernel_rfl) rfl (.cons (ls' := [true, true, true, true, true, true, true, true, true, true, true, true, true, false, false, false, false, false, false, false, false, false, false, false, false, false, false, false, false, false, false, false, false, false, false]) rfl rfl ?_ .nil)
      refine gs_val (val_load1 kag54 rfl (sees_mem (by repeat (first | exact .head _ | refine .tail _ ?_ | refine List.mem_append_right _ ?_))) rfl) rfl rfl rfl ?_
      refine ga_take (i := 13) (ls' := [true, true, true, true, true, true, true, true, true, true, true, true, true, true, false, false, false, false, false, false, false, false, false, false, false, false, false, false, false, false, false, false, false, false, false]) rfl (by kernel_rfl) rfl (fun _ _ _ => val_lenSli ksl54 rfl) rfl rfl rfl ?_
      refine ga_take (i := 14) (ls' := [true, true, true, true, true, true, true, true, true, true, true, true, true, true, true, false, false, false, false, false, false, false, false, false, false, false, false, false, false, false, false, false, false, false, false]) rfl (by kernel_rfl) rfl (fun _ _ _ => val_no (val_neq rfl rfl) (by omega)) rfl rfl rfl ?_
      refine ga_take (i := 15) (ls' := [true, true, true, true, true, true, true, true, true, true, true, true, true, true, true, true, false, false, false, false, false, false, false, false, false, false, false, false, false, false, false, false, false, false, false]) rfl (by kernel_rfl) rfl (fun _ _ _ => val_pick_f rfl rfl) rfl rfl rfl ?_
      refine ga_take (i := 16) (ls' := [true, true, true, true, true, true, true, true, true, true, true, true, true, true, true, true, true, false, false, false, false, false, false, false, false, false, false, false, false, false, false, false, false, false, false]) rfl (by kernel_rfl) rfl (fun _ _ _ => val_move rfl) rfl rfl rfl ?_
      refine ga_take (i := 17) (ls' := [true, true, true, true, true, true, true, true, true, true, true, true, true, true, true, true, true, true, false, false, false, false, false, false, false, false, false, false, false, false, false, false, false, false, false]) rfl (by kernel_rfl) rfl (fun _ _ _ => val_fieldAddr kfo70_0 rfl) rfl rfl rfl ?_
      refine ga_branch (rs := [18, 19]) (by kernel_rfl) rfl (.cons (ls' := [true, true, true, true, true, true, true, true, true, true, true, true, true, true, true, true, true, true, true, false, false, false, false, false, false, false, false, false, false, false, false, false, false, false, false]) rfl rfl ?_ (.cons (ls' := [true, true, true, true, true, true, true, true, true, true, true, true, true, true, true, true, true, true, false, true, false, false, false, false, false, false, false, false, false, false, false, false, false, false, false]) rfl rfl ?_ .nil))
      · skip
        refine gs_val (val_loadA kag31 rfl (sees_mem (by repeat (first | exact .head _ | refine .tail _ ?_ | refine List.mem_append_right _ ?_))) rfl rfl) rfl rfl rfl ?_
        refine ga_branch (rs := [19]) (by kernel_rfl) rfl (.cons (ls' := [true, true, true, true, true, true, true, true, true, true, true, true, true, true, true, true, true, true, true, true, false, false, false, false, false, false, false, false, false, false, false, false, false, false, false]) rfl rfl ?_ .nil)
        refine gs_val (val_loadA kag31 rfl (sees_mem (by repeat (first | exact .head _ | refine .tail _ ?_ | refine List.mem_append_right _ ?_))) rfl rfl) rfl rfl rfl ?_
        refine gx_env (F := [(0, _), (1, _), (2, _), (3, _), (4, _), (5, _), (10, _), (11, _), (12, _), (13, _), (14, _), (15, _), (16, _), (17, _), (18, _), (19, _), (20, _), (21, _), (22, _), (23, _), (24, _), (25, _), (26, _), (27, _), (28, _), (29, _), (30, _), (31, _), (32, _), (33, _), (34, _), (35, _), (36, _), (37, _), (38, _), (39, _), (40, _)]) (.cons rfl (.cons rfl (.cons rfl (.cons rfl (.cons rfl (.cons rfl (.cons rfl (.cons rfl (.cons rfl (.cons rfl (.cons rfl (.cons rfl (.cons rfl (.cons rfl (.cons rfl (.cons rfl (.cons rfl (.cons rfl (.cons rfl (.cons rfl (.cons rfl (.cons rfl (.cons rfl (.cons rfl (.cons rfl (.cons rfl (.cons rfl (.cons rfl (.cons rfl (.cons rfl (.cons rfl (.cons rfl (.cons rfl (.cons rfl (.cons rfl (.cons rfl (.cons rfl .nil))))))))))))))))))))))))))))))))))))) (gx_perm (by first | exact .refl _ | (repeat (first | exact .refl _ | refine perm_take (by first | exact .head | exact .tail .head | exact .tail (.tail .head) | exact .tail (.tail (.tail .head)) | exact .tail (.tail (.tail (.tail .head))) | exact .tail (.tail (.tail (.tail (.tail .head))))) ?_ | refine perm_takeL (by repeat (first | exact .app | exact .here | apply TakeL.tail | apply TakeL.appr)) ?_ | refine perm_takeX (by repeat (first | exact .cons .head .nil | apply TakeL.tail | apply TakeL.appr)) ?_))) (hD1  True.intro))
      · skip
        refine gs_val (val_loadA kag31 rfl (sees_mem (by repeat (first | exact .head _ | refine .tail _ ?_ | refine List.mem_append_right _ ?_))) rfl rfl) rfl rfl rfl ?_
        refine ga_branch (rs := [18, 20]) (by kernel_rfl) rfl (.cons (ls' := [true, true, true, true, true, true, true, true, true, true, true, true, true, true, true, true, true, true, true, true, false, false, false, false, false, false, false, false, false, false, false, false, false, false, false]) rfl rfl ?_ (.cons (ls' := [true, true, true, true, true, true, true, true, true, true, true, true, true, true, true, true, true, true, false, true, true, false, false, false, false, false, false, false, false, false, false, false, false, false, false]) rfl rfl ?_ .nil))
        · skip
          refine gs_val (val_loadA kag31 rfl (sees_mem (by repeat (first | exact .head _ | refine .tail _ ?_ | refine List.mem_append_right _ ?_))) rfl rfl) rfl rfl rfl ?_
          refine gx_env (F := [(0, _), (1, _), (2, _), (3, _), (4, _), (5, _), (10, _), (11, _), (12, _), (13, _), (14, _), (15, _), (16, _), (17, _), (18, _), (19, _), (20, _), (21, _), (22, _), (23, _), (24, _), (25, _), (26, _), (27, _), (28, _), (29, _), (30, _), (31, _), (32, _), (33, _), (34, _), (35, _), (36, _), (37, _), (38, _), (39, _), (40, _)]) (.cons rfl (.cons rfl (.cons rfl (.cons rfl (.cons rfl (.cons rfl (.cons rfl (.cons rfl (.cons rfl (.cons rfl (.cons rfl (.cons rfl (.cons rfl (.cons rfl (.cons rfl (.cons rfl (.cons rfl (.cons rfl (.cons rfl (.cons rfl (.cons rfl (.cons rfl (.cons rfl (.cons rfl (.cons rfl (.cons rfl (.cons rfl (.cons rfl (.cons rfl (.cons rfl (.cons rfl (.cons rfl (.cons rfl (.cons rfl (.cons rfl (.cons rfl (.cons rfl .nil))))))))))))))))))))))))))))))))))))) (gx_perm (by first | exact .refl _ | (repeat (first | exact .refl _ | refine perm_take (by first | exact .head | exact .tail .head | exact .tail (.tail .head) | exact .tail (.tail (.tail .head)) | exact .tail (.tail (.tail (.tail .head))) | exact .tail (.tail (.tail (.tail (.tail .head))))) ?_ | refine perm_takeL (by repeat (first | exact .app | exact .here | apply TakeL.tail | apply TakeL.appr)) ?_ | refine perm_takeX (by repeat (first | exact .cons .head .nil | apply TakeL.tail | apply TakeL.appr)) ?_))) (hD1  True.intro))
        · skip
          refine gs_pure (enters kcall49 (.cons rfl .nil)) (hint_spec _) rfl rfl rfl (fun _ _ => trivial) ?_
          refine ga_branch (rs := [18]) (by kernel_rfl) rfl (.cons (ls' := [true, true, true, true, true, true, true, true, true, true, true, true, true, true, true, true, true, true, true, true, true, false, false, false, false, false, false, false, false, false, false, false, false, false, false]) rfl rfl ?_ .nil)
          refine gs_val (val_loadA kag31 rfl (sees_mem (by repeat (first | exact .head _ | refine .tail _ ?_ | refine List.mem_append_right _ ?_))) rfl rfl) rfl rfl rfl ?_
          refine ga_take (i := 21) (ls' := [true, true, true, true, true, true, true, true, true, true, true, true, true, true, true, true, true, true, true, true, true, true, false, false, false, false, false, false, false, false, false, false, false, false, false]) rfl (by kernel_rfl) rfl (fun _ _ _ => val_no (val_neqDig kdig31 rfl rfl rfl rfl) (fun h => h rfl)) rfl rfl rfl ?_
          refine ga_take (i := 22) (ls' := [true, true, true, true, true, true, true, true, true, true, true, true, true, true, true, true, true, true, true, true, true, true, true, false, false, false, false, false, false, false, false, false, false, false, false]) rfl (by kernel_rfl) rfl (fun _ _ _ => val_pick_f rfl rfl) rfl rfl rfl ?_
          refine ga_take (i := 23) (ls' := [true, true, true, true, true, true, true, true, true, true, true, true, true, true, true, true, true, true, true, true, true, true, true, true, false, false, false, false, false, false, false, false, false, false, false]) rfl (by kernel_rfl) rfl (fun _ _ _ => val_move rfl) rfl rfl rfl ?_
          refine ga_take (i := 24) (ls' := [true, true, true, true, true, true, true, true, true, true, true, true, true, true, true, true, true, true, true, true, true, true, true, true, true, false, false, false, false, false, false, false, false, false, false]) rfl (by kernel_rfl) rfl (fun _ _ _ => val_move rfl) rfl rfl rfl ?_
          refine gx_env (F := [(0, _), (1, _), (2, _), (3, _), (4, _), (5, _), (10, _), (11, _), (12, _), (13, _), (14, _), (15, _), (16, _), (17, _), (18, _), (19, _), (20, _), (21, _), (22, _), (23, _), (24, _), (25, _), (26, _), (27, _), (28, _), (29, _), (30, _), (31, _), (32, _), (33, _), (34, _), (35, _), (36, _), (37, _), (38, _), (39, _), (40, _), (41, _), (42, _), (43, _), (44, _), (45, _)]) (.cons rfl (.cons rfl (.cons rfl (.cons rfl (.cons rfl (.cons rfl (.cons rfl (.cons rfl (.cons rfl (.cons rfl (.cons rfl (.cons rfl (.cons rfl (.cons rfl (.cons rfl (.cons rfl (.cons rfl (.cons rfl (.cons rfl (.cons rfl (.cons rfl (.cons rfl (.cons rfl (.cons rfl (.cons rfl (.cons rfl (.cons rfl (.cons rfl (.cons rfl (.cons rfl (.cons rfl (.cons rfl (.cons rfl (.cons rfl (.cons rfl (.cons rfl (.cons rfl (.cons rfl (.cons rfl (.cons rfl (.cons rfl (.cons rfl .nil)))))))))))))))))))))))))))))))))))))))))) (gx_perm (by first | exact .refl _ | (repeat (first | exact .refl _ | refine perm_take (by first | exact .head | exact .tail .head | exact .tail (.tail .head) | exact .tail (.tail (.tail .head)) | exact .tail (.tail (.tail (.tail .head))) | exact .tail (.tail (.tail (.tail (.tail .head))))) ?_ | refine perm_takeL (by repeat (first | exact .app | exact .here | apply TakeL.tail | apply TakeL.appr)) ?_ | refine perm_takeX (by repeat (first | exact .cons .head .nil | apply TakeL.tail | apply TakeL.appr)) ?_))) (hD0  True.intro))
    · rintro  _
      refine ga_branch (rs := [20]) (by kernel_rfl) rfl (.cons (ls' := [true, true, true, true, true, true, true, true, true, true, true, true, true, true, true, true, true, true, true, true, true, false, false, false, false, false, false, false, false, false, false, false, false, false, false]) rfl rfl ?_ .nil)
      refine gs_pure (enters kcall49 (.cons rfl .nil)) (hint_spec _) rfl rfl rfl (fun _ _ => trivial) ?_
      refine ga_take (i := 21) (ls' := [true, true, true, true, true, true, true, true, true, true, true, true, true, true, true, true, true, true, true, true, true, true, false, false, false, false, false, false, false, false, false, false, false, false, false]) rfl (by kernel_rfl) rfl (fun _ _ _ => val_no (val_neqDig kdig31 rfl rfl rfl rfl) (fun h => h rfl)) rfl rfl rfl ?_
      refine ga_take (i := 22) (ls' := [true, true, true, true, true, true, true, true, true, true, true, true, true, true, true, true, true, true, true, true, true, true, true, false, false, false, false, false, false, false, false, false, false, false, false]) rfl (by kernel_rfl) rfl (fun _ _ _ => val_pick_f rfl rfl) rfl rfl rfl ?_
      refine ga_take (i := 23) (ls' := [true, true, true, true, true, true, true, true, true, true, true, true, true, true, true, true, true, true, true, true, true, true, true, true, false, false, false, false, false, false, false, false, false, false, false]) rfl (by kernel_rfl) rfl (fun _ _ _ => val_move rfl) rfl rfl rfl ?_
      refine ga_take (i := 24) (ls' := [true, true, true, true, true, true, true, true, true, true, true, true, true, true, true, true, true, true, true, true, true, true, true, true, true, false, false, false, false, false, false, false, false, false, false]) rfl (by kernel_rfl) rfl (fun _ _ _ => val_move rfl) rfl rfl rfl ?_
      refine gx_env (F := [(0, _), (1, _), (2, _), (3, _), (4, _), (5, _), (10, _), (11, _), (12, _), (13, _), (14, _), (15, _), (16, _), (17, _), (18, _), (19, _), (20, _), (21, _), (22, _), (23, _), (24, _), (25, _), (26, _), (27, _), (28, _), (29, _), (30, _), (31, _), (32, _), (33, _), (34, _), (35, _), (36, _), (37, _), (38, _), (39, _), (40, _), (41, _), (42, _), (43, _), (44, _), (45, _)]) (.cons rfl (.cons rfl (.cons rfl (.cons rfl (.cons rfl (.cons rfl (.cons rfl (.cons rfl (.cons rfl (.cons rfl (.cons rfl (.cons rfl (.cons rfl (.cons rfl (.cons rfl (.cons rfl (.cons rfl (.cons rfl (.cons rfl (.cons rfl (.cons rfl (.cons rfl (.cons rfl (.cons rfl (.cons rfl (.cons rfl (.cons rfl (.cons rfl (.cons rfl (.cons rfl (.cons rfl (.cons rfl (.cons rfl (.cons rfl (.cons rfl (.cons rfl (.cons rfl (.cons rfl (.cons rfl (.cons rfl (.cons rfl (.cons rfl .nil)))))))))))))))))))))))))))))))))))))))))) (gx_perm (by first | exact .refl _ | (repeat (first | exact .refl _ | refine perm_take (by first | exact .head | exact .tail .head | exact .tail (.tail .head) | exact .tail (.tail (.tail .head)) | exact .tail (.tail (.tail (.tail .head))) | exact .tail (.tail (.tail (.tail (.tail .head))))) ?_ | refine perm_takeL (by repeat (first | exact .app | exact .here | apply TakeL.tail | apply TakeL.appr)) ?_ | refine perm_takeX (by repeat (first | exact .cons .head .nil | apply TakeL.tail | apply TakeL.appr)) ?_))) (hD0  True.intro))
  · rintro  _
    refine ga_branch (rs := [25]) (by kernel_rfl) rfl (.cons (ls' := [true, true, true, true, true, true, true, true, true, true, true, true, true, true, true, true, true, true, true, true, true, true, true, true, true, true, false, false, false, false, false, false, false, false, false]) rfl rfl ?_ .nil)
    refine gs_val (val_loadA kag70 rfl (sees_mem (by repeat (first | exact .head _ | refine .tail _ ?_ | refine List.mem_append_right _ ?_))) rfl rfl) rfl rfl rfl ?_
    refine ga_branch (rs := [26]) (by kernel_rfl) rfl (.cons (ls' := [true, true, true, true, true, true, true, true, true, true, true, true, true, true, true, true, true, true, true, true, true, true, true, true, true, true, true, false, false, false, false, false, false, false, false]) rfl rfl ?_ .nil)
    refine gs_turns (enters kcall41 (.cons rfl (.cons rfl .nil))) (take_new bt 2 [] la c mb clk rows NS NB htw (hintW (5#64)) 3 xb (sealL (keyW (5#64)) [7, 8]).length xc (sealL (keyW (5#64)) [7, 8]) rfl (by decide) (by decide) (by omega) (by omega) rfl (by decide) (by decide)) rfl rfl rfl .app (row_of_ownL hx .app (by first | exact .here | exact .app | exact .cons .head .here | exact .cons .head .app | exact .tail .here | exact .tail .app | exact .tail (.cons .head .here) | exact .tail (.cons .head .app) | exact .tail (.tail .here) | exact .tail (.tail .app) | exact .tail (.tail (.cons .head .here)) | exact .tail (.tail (.cons .head .app)) | exact .tail (.tail (.tail .here)) | exact .tail (.tail (.tail .app)) | exact .tail (.tail (.tail (.cons .head .here))) | exact .tail (.tail (.tail (.cons .head .app))) | exact .appr .here | exact .appr .app | exact .appr (.cons .head .here) | exact .appr (.cons .head .app) | exact .appr (.appr .here) | exact .appr (.appr .app) | exact .appr (.appr (.cons .head .here)) | exact .appr (.appr (.cons .head .app)) | exact .appr (.appr (.appr .here)) | exact .appr (.appr (.appr .app)) | exact .appr (.appr (.appr (.cons .head .here))) | exact .appr (.appr (.appr (.cons .head .app))) | exact .tail (.appr .here) | exact .tail (.appr .app) | exact .tail (.appr (.cons .head .here)) | exact .tail (.appr (.cons .head .app)) | exact .tail (.tail (.appr .here)) | exact .tail (.tail (.appr .app)) | exact .tail (.tail (.appr (.cons .head .here))) | exact .tail (.tail (.appr (.cons .head .app))) | exact .appr (.tail .here) | exact .appr (.tail .app) | exact .appr (.tail (.cons .head .here)) | exact .appr (.tail (.cons .head .app)) | exact .appr (.appr (.tail .here)) | exact .appr (.appr (.tail .app)) | exact .appr (.appr (.tail (.cons .head .here))) | exact .appr (.appr (.tail (.cons .head .app))) | exact .appr (.tail (.tail .here)) | exact .appr (.tail (.tail .app)) | exact .appr (.tail (.tail (.cons .head .here))) | exact .appr (.tail (.tail (.cons .head .app))))) (fun Lt htl => ?_)
    obtain ⟨ya, yc, lb, c, mb, clk, rows, NS, NB, htw, rfl⟩ := tw_one htl
    refine ga_take (i := 27) (ls' := [true, true, true, true, true, true, true, true, true, true, true, true, true, true, true, true, true, true, true, true, true, true, true, true, true, true, true, true, false, false, false, false, false, false, false]) rfl (by kernel_rfl) rfl (fun _ _ _ => val_neq rfl rfl) rfl rfl rfl ?_
    refine ga_take (i := 28) (ls' := [true, true, true, true, true, true, true, true, true, true, true, true, true, true, true, true, true, true, true, true, true, true, true, true, true, true, true, true, true, false, false, false, false, false, false]) rfl (by kernel_rfl) rfl (fun _ _ _ => val_pick_f rfl rfl) rfl rfl rfl ?_
    refine ga_take (i := 29) (ls' := [true, true, true, true, true, true, true, true, true, true, true, true, true, true, true, true, true, true, true, true, true, true, true, true, true, true, true, true, true, true, false, false, false, false, false]) rfl (by kernel_rfl) rfl (fun _ _ _ => val_move rfl) rfl rfl rfl ?_
    refine ga_take (i := 30) (ls' := [true, true, true, true, true, true, true, true, true, true, true, true, true, true, true, true, true, true, true, true, true, true, true, true, true, true, true, true, true, true, true, false, false, false, false]) rfl (by kernel_rfl) rfl (fun _ _ _ => val_move rfl) rfl rfl rfl ?_
    refine ga_branch (rs := [31]) (by kernel_rfl) rfl (.cons (ls' := [true, true, true, true, true, true, true, true, true, true, true, true, true, true, true, true, true, true, true, true, true, true, true, true, true, true, true, true, true, true, true, true, false, false, false]) rfl rfl ?_ .nil)
    refine gs_val (val_loadA kag70 rfl (sees_mem (by repeat (first | exact .head _ | refine .tail _ ?_ | refine List.mem_append_right _ ?_))) rfl rfl) rfl rfl rfl ?_
    refine ga_branch (rs := [32]) (by kernel_rfl) rfl (.cons (ls' := [true, true, true, true, true, true, true, true, true, true, true, true, true, true, true, true, true, true, true, true, true, true, true, true, true, true, true, true, true, true, true, true, true, false, false]) rfl rfl ?_ .nil)
    refine gs_turns (enters kcall41 (.cons rfl (.cons rfl .nil))) (take_old bt 2 [⟨hintW (5#64), 3, (sealL (keyW (5#64)) [7, 8]), ya, yc⟩] lb c mb clk rows NS NB htw (hintW (5#64)) 3 xb (sealL (keyW (5#64)) [7, 8]).length xc (by decide) (by decide) (by omega) (by omega) 0 Nat.zero_lt_one (ixA_one _ _ rfl) (Int.le_refl _)) rfl rfl rfl .app (fun _ _ => trivial) (fun _ _ => ?_)
    refine ga_take (i := 33) (ls' := [true, true, true, true, true, true, true, true, true, true, true, true, true, true, true, true, true, true, true, true, true, true, true, true, true, true, true, true, true, true, true, true, true, true, false]) rfl (by kernel_rfl) rfl (fun _ _ _ => val_neq rfl rfl) rfl rfl rfl ?_
    refine ga_take (i := 34) (ls' := [true, true, true, true, true, true, true, true, true, true, true, true, true, true, true, true, true, true, true, true, true, true, true, true, true, true, true, true, true, true, true, true, true, true, true]) rfl (by kernel_rfl) rfl (fun _ _ _ => val_pick_f rfl rfl) rfl rfl rfl ?_
    refine ga_done (by kernel_rfl) ?_
    refine gk_seq ?_
    refine gc_false rfl ?_
    refine gc_skip ?_
    refine gk_seq ?_
    refine gc_seq ?_
    refine gc_region ?_
    refine gl_cons (gs_val (val_move rfl) rfl rfl rfl ?_)
    refine gl_cons (gs_val (val_loadA kag31 rfl (sees_mem (by repeat (first | exact .head _ | refine .tail _ ?_ | refine List.mem_append_right _ ?_))) rfl rfl) rfl rfl rfl ?_)
    refine gl_cons (gs_turns (enters kcall40 (.cons rfl (.cons rfl (.cons rfl .nil)))) (see_own bt 2 [⟨hintW (5#64), 3, (sealL (keyW (5#64)) [7, 8]), ya, yc⟩] lb c mb clk rows NS NB htw (5#64) 2 0 Nat.zero_lt_one (ixA_one _ _ rfl) [7, 8] rfl (by decide) (show (2 : Int) < 3 by decide)) rfl rfl rfl .app (fun _ _ => trivial) (fun ⟨ob, oc, oN⟩ ho => ?_))
    refine gx_perm perm_abr ?_
    refine gl_cons (gs_val (val_move rfl) rfl rfl rfl ?_)
    refine gl_cons (gs_val (val_extract rfl rfl) rfl rfl rfl ?_)
    refine gl_cons (gs_val (val_extract rfl rfl) rfl rfl rfl ?_)
    refine gl_cons (gs_val (val_assign rfl) rfl rfl rfl ?_)
    refine gl_cons (gs_val (val_assign rfl) rfl rfl rfl ?_)
    refine gl_nil ?_
    refine gk_seq ?_
    refine gc_seq ?_
    refine gc_region ?_
    refine gl_cons (gs_val (val_move rfl) rfl rfl rfl ?_)
    refine gl_cons (gs_val (val_loadA kag31 rfl (sees_mem (by repeat (first | exact .head _ | refine .tail _ ?_ | refine List.mem_append_right _ ?_))) rfl rfl) rfl rfl rfl ?_)
    refine gl_cons (gs_turns (enters kcall40 (.cons rfl (.cons rfl (.cons rfl .nil)))) (see_low bt 2 [⟨hintW (5#64), 3, (sealL (keyW (5#64)) [7, 8]), ya, yc⟩] lb c mb clk rows NS NB htw (5#64) 3 0 Nat.zero_lt_one (ixA_one _ _ rfl) (show (3 : Int) ≤ 3 by decide)) rfl rfl rfl .app (fun _ _ => trivial) (fun _ _ => ?_))
    refine gl_cons (gs_val (val_move rfl) rfl rfl rfl ?_)
    refine gl_cons (gs_val (val_extract rfl rfl) rfl rfl rfl ?_)
    refine gl_cons (gs_val (val_extract rfl rfl) rfl rfl rfl ?_)
    refine gl_cons (gs_val (val_assign rfl) rfl rfl rfl ?_)
    refine gl_cons (gs_val (val_assign rfl) rfl rfl rfl ?_)
    refine gl_nil ?_
    refine gk_seq ?_
    refine gc_seq ?_
    refine gc_region ?_
    refine gl_cons (gs_val (val_move rfl) rfl rfl rfl ?_)
    refine gl_cons (gs_val (val_move rfl) rfl rfl rfl ?_)
    refine gl_cons (gs_val (val_move rfl) rfl rfl rfl ?_)
    refine gl_cons (gs_val (val_not rfl) rfl rfl rfl ?_)
    refine gl_cons (gs_val (val_pick_t rfl rfl) rfl rfl rfl ?_)
    refine gl_cons (gs_val (val_move rfl) rfl rfl rfl ?_)
    refine gl_cons (gs_val (val_move rfl) rfl rfl rfl ?_)
    refine gl_cons (gs_val (val_bytesStr (l := [7, 8]) kun54 kun5 kun9 rfl rfl (ho.look (by repeat (first | exact .here | exact .headR | exact .app | refine .tail ?_ | refine .appr ?_)))) rfl rfl rfl ?_)
    refine gl_cons (gs_val (val_yes (val_eqlS rfl rfl) rfl) rfl rfl rfl ?_)
    refine gl_cons (gs_val (val_pick_t rfl rfl) rfl rfl rfl ?_)
    refine gl_cons (gs_val (val_assign rfl) rfl rfl rfl ?_)
    refine gl_nil ?_
    refine gk_seq ?_
    refine gc_ret ?_
    refine gk_ret rfl (resv_tmp rfl .nil) (List.nil_sublist _) ?_
    exact ⟨rfl, rfl⟩

/-- baize/baizelaw51.TowerNil -/
theorem towerNil_no (x : BitVec 64) (k base : Int) (hk : ¬ (0 ≤ k ∧ k ≤ 1099511627776)) : Pure Try.prog 9 ([Dig x, I64 k, I64 base]).toArray (fun _ => True) (.bool true) := by
  refine spec_walk (n := 91) Try.func9 rfl rfl rfl (fun w0 hpre => ?_)
  refine gc_seq ?_
  refine gc_region ?_
  refine gl_cons (gs_box rfl rfl rfl rfl (fun b3 => ?_))
  refine gl_cons (gs_val (val_assign rfl) rfl rfl rfl ?_)
  refine gl_nil ?_
  refine gk_seq ?_
  refine gc_seq ?_
  refine gc_region ?_
  refine gl_cons (gs_val (val_assign rfl) rfl rfl rfl ?_)
  refine gl_nil ?_
  refine gk_seq ?_
  refine gc_seq ?_
  refine gc_region ?_
  refine gl_cons (gs_makes (enters kcall38 (.cons rfl .nil)) (newT_ok 1 (by omega) (by omega)) rfl rfl rfl (fun _ _ => trivial) (fun ⟨bt, Ls⟩ ht => ?_))
  have ht : TW 175 70 bt 1 [] Ls := ht
  obtain ⟨la, c, mb, clk, rows, NS, NB, htw, rfl⟩ := tw_zero ht
  refine gl_cons (gs_val (val_move rfl) rfl rfl rfl ?_)
  refine gl_cons (gs_val (val_extract rfl rfl) rfl rfl rfl ?_)
  refine gl_cons (gs_val (val_extract rfl rfl) rfl rfl rfl ?_)
  refine gl_cons (gs_val (val_assign rfl) rfl rfl rfl ?_)
  refine gl_cons (gs_val (val_assign rfl) rfl rfl rfl ?_)
  refine gl_nil ?_
  refine gk_seq ?_
  refine gc_seq ?_
  refine gc_seq ?_
  refine gc_region ?_
  refine gl_cons (gs_val (val_move rfl) rfl rfl rfl ?_)
  refine gl_cons (gs_val (val_eqlNil kun66 rfl rfl) rfl rfl rfl ?_)
  refine gl_cons (gs_val (val_move rfl) rfl rfl rfl ?_)
  refine gl_cons (gs_val (val_move rfl) rfl rfl rfl ?_)
  refine gl_cons (gs_val (val_neq rfl rfl) rfl rfl rfl ?_)
  refine gl_cons (gs_val (val_pick_f rfl rfl) rfl rfl rfl ?_)
  refine gl_nil ?_
  refine gk_seq ?_
  refine gc_false rfl ?_
  refine gc_skip ?_
  refine gk_seq ?_
  refine gc_seq ?_
  refine gc_region ?_
  refine gl_cons (gs_val (val_loadA kag30 rfl (sees_mem (by repeat (first | exact .head _ | refine .tail _ ?_ | refine List.mem_append_right _ ?_))) rfl rfl) rfl rfl rfl ?_)
  refine gl_cons (gs_val (val_move rfl) rfl rfl rfl ?_)
  refine gl_cons (gs_pure (enters kcall39 (.cons rfl (.cons rfl (.cons rfl .nil)))) (make_num x k none 0 0 hk) rfl rfl rfl (fun _ _ => trivial) ?_)
  refine gl_cons (gs_val (val_move rfl) rfl rfl rfl ?_)
  refine gl_cons (gs_val (val_extract rfl rfl) rfl rfl rfl ?_)
  refine gl_cons (gs_val (val_extract rfl rfl) rfl rfl rfl ?_)
  refine gl_cons (gs_alloc kze70 rfl rfl rfl (fun b10 => ?_))
  refine gl_cons (gs_store ksz70 rfl rfl rfl rfl rfl rfl (by first | exact .head | exact .tail .head | exact .tail (.tail .head) | exact .tail (.tail (.tail .head)) | exact .tail (.tail (.tail (.tail .head))) | exact .tail (.tail (.tail (.tail (.tail .head))))) (by simp) (by first | ((with_reducible refine splice_all _ _ ?_); simp; done) | (simp only [splice, stL, digL, List.take_succ_cons, List.take_zero, List.drop_succ_cons, List.drop_zero, List.length_cons, List.length_nil, Nat.reduceAdd, Nat.reduceMul, Nat.zero_add, Nat.zero_mul, List.cons_append, List.nil_append]; exact rfl)) ?_)
  refine gl_cons (gs_val (val_assign rfl) rfl rfl rfl ?_)
  refine gl_nil ?_
  refine gk_seq ?_
  refine gc_seq ?_
  refine gc_region ?_
  refine gl_cons (gs_val (val_move rfl) rfl rfl rfl ?_)
  refine gl_cons (gs_val (val_loadA kag30 rfl (sees_mem (by repeat (first | exact .head _ | refine .tail _ ?_ | refine List.mem_append_right _ ?_))) rfl rfl) rfl rfl rfl ?_)
  refine gl_cons (gs_val (val_move rfl) rfl rfl rfl ?_)
  refine gl_cons (gs_pure (enters kcall40 (.cons rfl (.cons rfl (.cons rfl .nil)))) (see_nil x base) rfl rfl rfl (fun _ _ => trivial) ?_)
  refine gl_cons (gs_val (val_move rfl) rfl rfl rfl ?_)
  refine gl_cons (gs_val (val_extract rfl rfl) rfl rfl rfl ?_)
  refine gl_cons (gs_val (val_extract rfl rfl) rfl rfl rfl ?_)
  refine gl_cons (gs_val (val_assign rfl) rfl rfl rfl ?_)
  refine gl_cons (gs_val (val_assign rfl) rfl rfl rfl ?_)
  refine gl_nil ?_
  refine gk_seq ?_
  refine gc_seq ?_
  refine gc_region ?_
  refine gl_cons (gs_val (val_move rfl) rfl rfl rfl ?_)
  refine gl_cons (gs_val (val_loadA kag70 rfl (sees_mem (by repeat (first | exact .head _ | refine .tail _ ?_ | refine List.mem_append_right _ ?_))) rfl rfl) rfl rfl rfl ?_)
  refine gl_cons (gs_pure (enters kcall41 (.cons rfl (.cons rfl .nil))) (take_nil _ _ _ _ _) rfl rfl rfl (fun _ _ => trivial) ?_)
  refine gl_cons (gs_val (val_eql rfl rfl) rfl rfl rfl ?_)
  refine gl_cons (gs_val (val_move rfl) rfl rfl rfl ?_)
  refine gl_cons (gs_val (val_move rfl) rfl rfl rfl ?_)
  refine gl_cons (gs_val (val_lenSli ksl54 rfl) rfl rfl rfl ?_)
  refine gl_cons (gs_val (val_eql rfl rfl) rfl rfl rfl ?_)
  refine gl_cons (gs_val (val_pick_t rfl rfl) rfl rfl rfl ?_)
  refine gl_cons (gs_val (val_move rfl) rfl rfl rfl ?_)
  refine gl_cons (gs_val (val_move rfl) rfl rfl rfl ?_)
  refine gl_cons (gs_val (val_not rfl) rfl rfl rfl ?_)
  refine gl_cons (gs_val (val_pick_t rfl rfl) rfl rfl rfl ?_)
  refine gl_cons (gs_val (val_move rfl) rfl rfl rfl ?_)
  refine gl_cons (gs_val (val_move rfl) rfl rfl rfl ?_)
  refine gl_cons (gs_val (val_fieldAddr kfo70_0 rfl) rfl rfl rfl ?_)
  refine gl_cons (gs_val (val_loadA kag31 rfl (sees_mem (by repeat (first | exact .head _ | refine .tail _ ?_ | refine List.mem_append_right _ ?_))) rfl rfl) rfl rfl rfl ?_)
  refine gl_cons (gs_pure (enters kcall42 (.cons rfl (.cons rfl .nil))) (dropT_nil _) rfl rfl rfl (fun _ _ => trivial) ?_)
  refine gl_cons (gs_val (val_not rfl) rfl rfl rfl ?_)
  refine gl_cons (gs_val (val_pick_t rfl rfl) rfl rfl rfl ?_)
  refine gl_cons (gs_val (val_move rfl) rfl rfl rfl ?_)
  refine gl_cons (gs_val (val_move rfl) rfl rfl rfl ?_)
  refine gl_cons (gs_pure (enters kcall43 (.cons rfl .nil)) (hasT_nil) rfl rfl rfl (fun _ _ => trivial) ?_)
  refine gl_cons (gs_val (val_lenSli ksl77 rfl) rfl rfl rfl ?_)
  refine gl_cons (gs_val (val_eql rfl rfl) rfl rfl rfl ?_)
  refine gl_cons (gs_val (val_pick_t rfl rfl) rfl rfl rfl ?_)
  refine gl_cons (gs_val (val_move rfl) rfl rfl rfl ?_)
  refine gl_cons (gs_val (val_move rfl) rfl rfl rfl ?_)
  refine gl_cons (gs_pure (enters kcall44 (.cons rfl .nil)) (sizeT_nil) rfl rfl rfl (fun _ _ => trivial) ?_)
  refine gl_cons (gs_val (val_eql rfl rfl) rfl rfl rfl ?_)
  refine gl_cons (gs_val (val_pick_t rfl rfl) rfl rfl rfl ?_)
  refine gl_cons (gs_val (val_move rfl) rfl rfl rfl ?_)
  refine gl_cons (gs_val (val_move rfl) rfl rfl rfl ?_)
  refine gl_cons (gs_pure (enters kcall45 (.cons rfl .nil)) (cloneT_nil) rfl rfl rfl (fun _ _ => trivial) ?_)
  refine gl_cons (gs_val (val_eqlNil kun66 rfl rfl) rfl rfl rfl ?_)
  refine gl_cons (gs_val (val_pick_t rfl rfl) rfl rfl rfl ?_)
  refine gl_cons (gs_val (val_move rfl) rfl rfl rfl ?_)
  refine gl_cons (gs_val (val_move rfl) rfl rfl rfl ?_)
  refine gl_cons (gs_pure (enters kcall46 (.cons rfl (.cons rfl .nil))) (sameT_nn) rfl rfl rfl (fun _ _ => trivial) ?_)
  refine gl_cons (gs_val (val_pick_t rfl rfl) rfl rfl rfl ?_)
  refine gl_cons (gs_val (val_move rfl) rfl rfl rfl ?_)
  refine gl_cons (gs_val (val_move rfl) rfl rfl rfl ?_)
  refine gl_cons (gs_val (val_move rfl) rfl rfl rfl ?_)
  refine gl_cons (gs_pure (enters kcall46 (.cons rfl (.cons rfl .nil))) (sameT_nc bt) rfl rfl rfl (fun _ _ => trivial) ?_)
  refine gl_cons (gs_val (val_not rfl) rfl rfl rfl ?_)
  refine gl_cons (gs_val (val_pick_t rfl rfl) rfl rfl rfl ?_)
  refine gl_cons (gs_val (val_move rfl) rfl rfl rfl ?_)
  refine gl_cons (gs_val (val_move rfl) rfl rfl rfl ?_)
  refine gl_cons (gs_pure (enters kcall46 (.cons rfl (.cons rfl .nil))) (sameT_cn bt) rfl rfl rfl (fun _ _ => trivial) ?_)
  refine gl_cons (gs_val (val_not rfl) rfl rfl rfl ?_)
  refine gl_cons (gs_val (val_pick_t rfl rfl) rfl rfl rfl ?_)
  refine gl_cons (gs_val (val_move rfl) rfl rfl rfl ?_)
  refine gl_cons (gs_pure (enters kcall47 .nil) (told51_spec) rfl rfl rfl (fun _ _ => trivial) ?_)
  refine gl_cons (gs_val (val_pick_t rfl rfl) rfl rfl rfl ?_)
  refine gl_cons (gs_val (val_assign rfl) rfl rfl rfl ?_)
  refine gl_nil ?_
  refine gk_seq ?_
  refine gc_ret ?_
  refine gk_ret rfl (resv_tmp rfl .nil) (List.nil_sublist _) ?_
  exact ⟨rfl, rfl⟩

/-- baize/baizelaw51.TowerNil -/
theorem towerNil_yes (x : BitVec 64) (k base : Int) (hk : 0 ≤ k ∧ k ≤ 1099511627776) : Pure Try.prog 9 ([Dig x, I64 k, I64 base]).toArray (fun _ => True) (.bool true) := by
  refine spec_walk (n := 91) Try.func9 rfl rfl rfl (fun w0 hpre => ?_)
  refine gc_seq ?_
  refine gc_region ?_
  refine gl_cons (gs_box rfl rfl rfl rfl (fun b3 => ?_))
  refine gl_cons (gs_val (val_assign rfl) rfl rfl rfl ?_)
  refine gl_nil ?_
  refine gk_seq ?_
  refine gc_seq ?_
  refine gc_region ?_
  refine gl_cons (gs_val (val_assign rfl) rfl rfl rfl ?_)
  refine gl_nil ?_
  refine gk_seq ?_
  refine gc_seq ?_
  refine gc_region ?_
  refine gl_cons (gs_makes (enters kcall38 (.cons rfl .nil)) (newT_ok 1 (by omega) (by omega)) rfl rfl rfl (fun _ _ => trivial) (fun ⟨bt, Ls⟩ ht => ?_))
  have ht : TW 175 70 bt 1 [] Ls := ht
  obtain ⟨la, c, mb, clk, rows, NS, NB, htw, rfl⟩ := tw_zero ht
  refine gl_cons (gs_val (val_move rfl) rfl rfl rfl ?_)
  refine gl_cons (gs_val (val_extract rfl rfl) rfl rfl rfl ?_)
  refine gl_cons (gs_val (val_extract rfl rfl) rfl rfl rfl ?_)
  refine gl_cons (gs_val (val_assign rfl) rfl rfl rfl ?_)
  refine gl_cons (gs_val (val_assign rfl) rfl rfl rfl ?_)
  refine gl_nil ?_
  refine gk_seq ?_
  refine gc_seq ?_
  refine gc_seq ?_
  refine gc_region ?_
  refine gl_cons (gs_val (val_move rfl) rfl rfl rfl ?_)
  refine gl_cons (gs_val (val_eqlNil kun66 rfl rfl) rfl rfl rfl ?_)
  refine gl_cons (gs_val (val_move rfl) rfl rfl rfl ?_)
  refine gl_cons (gs_val (val_move rfl) rfl rfl rfl ?_)
  refine gl_cons (gs_val (val_neq rfl rfl) rfl rfl rfl ?_)
  refine gl_cons (gs_val (val_pick_f rfl rfl) rfl rfl rfl ?_)
  refine gl_nil ?_
  refine gk_seq ?_
  refine gc_false rfl ?_
  refine gc_skip ?_
  refine gk_seq ?_
  refine gc_seq ?_
  refine gc_region ?_
  refine gl_cons (gs_val (val_loadA kag30 rfl (sees_mem (by repeat (first | exact .head _ | refine .tail _ ?_ | refine List.mem_append_right _ ?_))) rfl rfl) rfl rfl rfl ?_)
  refine gl_cons (gs_val (val_move rfl) rfl rfl rfl ?_)
  refine gl_cons (gs_makes (enters kcall39 (.cons rfl (.cons rfl (.cons rfl .nil)))) (make_ok x k none 0 0 [] rfl ⟨by omega, by omega⟩ (by omega) (by omega)) rfl rfl rfl (fun _ _ i v h => by simp at h) (fun ⟨xb, xc, xN, xe⟩ hx => ?_))
  have hx : Own xe 1 xb (sealL (keyW (x)) []).length xc ((sealL (keyW (x)) []).map U8) xN := hx
  refine gl_cons (gs_val (val_move rfl) rfl rfl rfl ?_)
  refine gl_cons (gs_val (val_extract rfl rfl) rfl rfl rfl ?_)
  refine gl_cons (gs_val (val_extract rfl rfl) rfl rfl rfl ?_)
  refine gl_cons (gs_alloc kze70 rfl rfl rfl (fun b10 => ?_))
  refine gl_cons (gs_store ksz70 rfl rfl rfl rfl rfl rfl (by first | exact .head | exact .tail .head | exact .tail (.tail .head) | exact .tail (.tail (.tail .head)) | exact .tail (.tail (.tail (.tail .head))) | exact .tail (.tail (.tail (.tail (.tail .head))))) (by simp) (by first | ((with_reducible refine splice_all _ _ ?_); simp; done) | (simp only [splice, stL, digL, List.take_succ_cons, List.take_zero, List.drop_succ_cons, List.drop_zero, List.length_cons, List.length_nil, Nat.reduceAdd, Nat.reduceMul, Nat.zero_add, Nat.zero_mul, List.cons_append, List.nil_append]; exact rfl)) ?_)
  refine gl_cons (gs_val (val_assign rfl) rfl rfl rfl ?_)
  refine gl_nil ?_
  refine gk_seq ?_
  refine gc_seq ?_
  refine gc_region ?_
  refine gl_cons (gs_val (val_move rfl) rfl rfl rfl ?_)
  refine gl_cons (gs_val (val_loadA kag30 rfl (sees_mem (by repeat (first | exact .head _ | refine .tail _ ?_ | refine List.mem_append_right _ ?_))) rfl rfl) rfl rfl rfl ?_)
  refine gl_cons (gs_val (val_move rfl) rfl rfl rfl ?_)
  refine gl_cons (gs_pure (enters kcall40 (.cons rfl (.cons rfl (.cons rfl .nil)))) (see_nil x base) rfl rfl rfl (fun _ _ => trivial) ?_)
  refine gl_cons (gs_val (val_move rfl) rfl rfl rfl ?_)
  refine gl_cons (gs_val (val_extract rfl rfl) rfl rfl rfl ?_)
  refine gl_cons (gs_val (val_extract rfl rfl) rfl rfl rfl ?_)
  refine gl_cons (gs_val (val_assign rfl) rfl rfl rfl ?_)
  refine gl_cons (gs_val (val_assign rfl) rfl rfl rfl ?_)
  refine gl_nil ?_
  refine gk_seq ?_
  refine gc_seq ?_
  refine gc_region ?_
  refine gl_cons (gs_val (val_move rfl) rfl rfl rfl ?_)
  refine gl_cons (gs_val (val_loadA kag70 rfl (sees_mem (by repeat (first | exact .head _ | refine .tail _ ?_ | refine List.mem_append_right _ ?_))) rfl rfl) rfl rfl rfl ?_)
  refine gl_cons (gs_pure (enters kcall41 (.cons rfl (.cons rfl .nil))) (take_nil _ _ _ _ _) rfl rfl rfl (fun _ _ => trivial) ?_)
  refine gl_cons (gs_val (val_eql rfl rfl) rfl rfl rfl ?_)
  refine gl_cons (gs_val (val_move rfl) rfl rfl rfl ?_)
  refine gl_cons (gs_val (val_move rfl) rfl rfl rfl ?_)
  refine gl_cons (gs_val (val_lenSli ksl54 rfl) rfl rfl rfl ?_)
  refine gl_cons (gs_val (val_eql rfl rfl) rfl rfl rfl ?_)
  refine gl_cons (gs_val (val_pick_t rfl rfl) rfl rfl rfl ?_)
  refine gl_cons (gs_val (val_move rfl) rfl rfl rfl ?_)
  refine gl_cons (gs_val (val_move rfl) rfl rfl rfl ?_)
  refine gl_cons (gs_val (val_not rfl) rfl rfl rfl ?_)
  refine gl_cons (gs_val (val_pick_t rfl rfl) rfl rfl rfl ?_)
  refine gl_cons (gs_val (val_move rfl) rfl rfl rfl ?_)
  refine gl_cons (gs_val (val_move rfl) rfl rfl rfl ?_)
  refine gl_cons (gs_val (val_fieldAddr kfo70_0 rfl) rfl rfl rfl ?_)
  refine gl_cons (gs_val (val_loadA kag31 rfl (sees_mem (by repeat (first | exact .head _ | refine .tail _ ?_ | refine List.mem_append_right _ ?_))) rfl rfl) rfl rfl rfl ?_)
  refine gl_cons (gs_pure (enters kcall42 (.cons rfl (.cons rfl .nil))) (dropT_nil _) rfl rfl rfl (fun _ _ => trivial) ?_)
  refine gl_cons (gs_val (val_not rfl) rfl rfl rfl ?_)
  refine gl_cons (gs_val (val_pick_t rfl rfl) rfl rfl rfl ?_)
  refine gl_cons (gs_val (val_move rfl) rfl rfl rfl ?_)
  refine gl_cons (gs_val (val_move rfl) rfl rfl rfl ?_)
  refine gl_cons (gs_pure (enters kcall43 (.cons rfl .nil)) (hasT_nil) rfl rfl rfl (fun _ _ => trivial) ?_)
  refine gl_cons (gs_val (val_lenSli ksl77 rfl) rfl rfl rfl ?_)
  refine gl_cons (gs_val (val_eql rfl rfl) rfl rfl rfl ?_)
  refine gl_cons (gs_val (val_pick_t rfl rfl) rfl rfl rfl ?_)
  refine gl_cons (gs_val (val_move rfl) rfl rfl rfl ?_)
  refine gl_cons (gs_val (val_move rfl) rfl rfl rfl ?_)
  refine gl_cons (gs_pure (enters kcall44 (.cons rfl .nil)) (sizeT_nil) rfl rfl rfl (fun _ _ => trivial) ?_)
  refine gl_cons (gs_val (val_eql rfl rfl) rfl rfl rfl ?_)
  refine gl_cons (gs_val (val_pick_t rfl rfl) rfl rfl rfl ?_)
  refine gl_cons (gs_val (val_move rfl) rfl rfl rfl ?_)
  refine gl_cons (gs_val (val_move rfl) rfl rfl rfl ?_)
  refine gl_cons (gs_pure (enters kcall45 (.cons rfl .nil)) (cloneT_nil) rfl rfl rfl (fun _ _ => trivial) ?_)
  refine gl_cons (gs_val (val_eqlNil kun66 rfl rfl) rfl rfl rfl ?_)
  refine gl_cons (gs_val (val_pick_t rfl rfl) rfl rfl rfl ?_)
  refine gl_cons (gs_val (val_move rfl) rfl rfl rfl ?_)
  refine gl_cons (gs_val (val_move rfl) rfl rfl rfl ?_)
  refine gl_cons (gs_pure (enters kcall46 (.cons rfl (.cons rfl .nil))) (sameT_nn) rfl rfl rfl (fun _ _ => trivial) ?_)
  refine gl_cons (gs_val (val_pick_t rfl rfl) rfl rfl rfl ?_)
  refine gl_cons (gs_val (val_move rfl) rfl rfl rfl ?_)
  refine gl_cons (gs_val (val_move rfl) rfl rfl rfl ?_)
  refine gl_cons (gs_val (val_move rfl) rfl rfl rfl ?_)
  refine gl_cons (gs_pure (enters kcall46 (.cons rfl (.cons rfl .nil))) (sameT_nc bt) rfl rfl rfl (fun _ _ => trivial) ?_)
  refine gl_cons (gs_val (val_not rfl) rfl rfl rfl ?_)
  refine gl_cons (gs_val (val_pick_t rfl rfl) rfl rfl rfl ?_)
  refine gl_cons (gs_val (val_move rfl) rfl rfl rfl ?_)
  refine gl_cons (gs_val (val_move rfl) rfl rfl rfl ?_)
  refine gl_cons (gs_pure (enters kcall46 (.cons rfl (.cons rfl .nil))) (sameT_cn bt) rfl rfl rfl (fun _ _ => trivial) ?_)
  refine gl_cons (gs_val (val_not rfl) rfl rfl rfl ?_)
  refine gl_cons (gs_val (val_pick_t rfl rfl) rfl rfl rfl ?_)
  refine gl_cons (gs_val (val_move rfl) rfl rfl rfl ?_)
  refine gl_cons (gs_pure (enters kcall47 .nil) (told51_spec) rfl rfl rfl (fun _ _ => trivial) ?_)
  refine gl_cons (gs_val (val_pick_t rfl rfl) rfl rfl rfl ?_)
  refine gl_cons (gs_val (val_assign rfl) rfl rfl rfl ?_)
  refine gl_nil ?_
  refine gk_seq ?_
  refine gc_ret ?_
  refine gk_ret rfl (resv_tmp rfl .nil) (List.nil_sublist _) ?_
  exact ⟨rfl, rfl⟩

theorem towerNil_walk (x : BitVec 64) (k base : Int) : Pure Try.prog 9 ([Dig x, I64 k, I64 base]).toArray (fun _ => True) (.bool true) := by
  by_cases h : 0 ≤ k ∧ k ≤ 1099511627776
  · exact towerNil_yes x k base h
  · exact towerNil_no x k base h

end Go.Proofs.Ytddckbhlfeegoaa
