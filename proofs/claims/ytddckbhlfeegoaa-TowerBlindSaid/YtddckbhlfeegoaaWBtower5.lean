/- The walk of functions of the program: what each computes, for every input. -/
import Derived.Test.YtddckbhlfeegoaaWBFacts
import Derived.Test.YtddckbhlfeegoaaWBtower4
namespace Go.Proofs.Ytddckbhlfeegoaa
open Go Go.Eng
set_option linter.unusedVariables false
set_option linter.unusedSimpArgs false

/-- slices.Delete[[]baize/tower.Appointment,baize/tower.Appointment] -/
theorem deleteA_ok (lb n c i : Nat) (ml : List Am) (junk : List Value) (hn : ml.length = n) (hi : i < n) (hnc : n ≤ c) (hc : c * 10 ≤ (ml.flatMap Am.L ++ junk).length) : Turns Try.prog 124 ([.slice (some ⟨lb, 0, none⟩) n c, I64 (i : Int), I64 ((i : Int) + 1)]).toArray (fun _ => True) ([⟨lb, .cells (ml.flatMap Am.L ++ junk).toArray 70 (0, 0)⟩]) (fun s : List Value => c * 10 ≤ ((ml.eraseIdx i).flatMap Am.L ++ s).length) (fun _ => .slice (some ⟨lb, 0, none⟩) (n - 1) c) (fun s => [⟨lb, .cells ((ml.eraseIdx i).flatMap Am.L ++ s).toArray 70 (0, 0)⟩]) := by
  obtain ⟨r, hr, hsp⟩ := erase_rows am_len ml i (by omega) junk
  have hel : ((ml.eraseIdx i).flatMap Am.L).length = (n - 1) * 10 := by rw [flatK_len am_len, List.length_eraseIdx, if_pos (by omega), hn]
  have hzl : (apL 0#64 0 nilS).length = 10 := rfl
  have hjl : (ml.flatMap Am.L ++ junk).length = n * 10 + junk.length := by rw [List.length_append, flatK_len am_len, hn]
  have hs2 : splice ((ml.eraseIdx i).flatMap Am.L ++ r) ((n - 1) * 10) (apL 0#64 0 nilS) = (ml.eraseIdx i).flatMap Am.L ++ (apL 0#64 0 nilS ++ r.drop 10) := by have := splice_behind ((ml.eraseIdx i).flatMap Am.L) r (apL 0#64 0 nilS) (by rw [hzl]; omega); rw [hel] at this; exact this
  refine spec_walk (n := 33) Try.func124 rfl rfl rfl (fun w0 hpre => ?_)
  refine gc_seq ?_
  refine gc_region ?_
  refine gl_cons (gs_val (val_assign rfl) rfl rfl rfl ?_)
  refine gl_nil ?_
  refine gk_seq ?_
  refine gc_seq ?_
  refine gc_region ?_
  refine gl_cons (gs_val (val_move rfl) rfl rfl rfl ?_)
  refine gl_cons (gs_val (val_move rfl) rfl rfl rfl ?_)
  refine gl_cons (gs_val (val_move rfl) rfl rfl rfl ?_)
  refine gl_cons (gs_val (val_move rfl) rfl rfl rfl ?_)
  refine gl_cons (gs_val (val_lenSli ksl173 rfl) rfl rfl rfl ?_)
  refine gl_cons (gs_val (val_sliceLHM (l := i) (h := i + 1) (m := n) ksl173 rfl rfl rfl rfl rfl (by omega) rfl ⟨by omega, by omega, hnc⟩) rfl rfl rfl ?_)
  refine gl_nil ?_
  refine gk_seq ?_
  refine gc_seq ?_
  refine gc_seq ?_
  refine gc_region ?_
  refine gl_cons (gs_val (val_move rfl) rfl rfl rfl ?_)
  refine gl_cons (gs_val (val_move rfl) rfl rfl rfl ?_)
  refine gl_cons (gs_val (val_no (val_eql rfl rfl) (by omega)) rfl rfl rfl ?_)
  refine gl_nil ?_
  refine gk_seq ?_
  refine gc_false rfl ?_
  refine gc_skip ?_
  refine gk_seq ?_
  refine gc_seq ?_
  refine gc_region ?_
  refine gl_cons (gs_val (val_move rfl) rfl rfl rfl ?_)
  refine gl_cons (gs_val (val_lenSli ksl173 rfl) rfl rfl rfl ?_)
  refine gl_cons (gs_val (val_assign rfl) rfl rfl rfl ?_)
  refine gl_nil ?_
  refine gk_seq ?_
  refine gc_seq ?_
  refine gc_draw (m := 6) kmixed (by kernel_rfl) ?_
  refine gq_val (val_move rfl) rfl rfl rfl ?_
  refine gq_val (val_move rfl) rfl rfl rfl ?_
  refine gq_val (val_sliceH ksl173 rfl rfl rfl (by omega)) rfl rfl rfl ?_
  refine gq_val (val_move rfl) rfl rfl rfl ?_
  refine gq_val (val_move rfl) rfl rfl rfl ?_
  refine gq_val (val_sliceL (l := i + 1) ksl173 rfl rfl (by omega) (by omega)) rfl rfl rfl ?_
  refine gq_nil ?_
  refine gl_cons (gs_appendR (m := n - (i + 1)) (ys := (ml.drop (i + 1)).flatMap Am.L) ksl173 rfl rfl rfl rfl (by omega) (by omega) (brings_slice ksl173 ((((has_cells (cs := ml.flatMap Am.L) (junk := junk)) _ _).sl (cap := c) (l := i + 1) (size := 10) (by rw [flatK_len am_len, hn]; omega)).cast (flatK_dropL am_len ml (i + 1))) (by rw [flatK_len am_len, List.length_drop, hn]) (ap_all _)) hsp .head ?_)
  refine gl_cons (gs_val (val_assign rfl) rfl rfl rfl ?_)
  refine gl_nil ?_
  refine gk_seq ?_
  refine gc_seq ?_
  refine gc_region ?_
  refine gl_cons (gs_val (val_move rfl) rfl rfl rfl ?_)
  refine gl_cons (gs_val (val_move rfl) rfl rfl rfl ?_)
  refine gl_cons (gs_val (val_lenSli ksl173 rfl) rfl rfl rfl ?_)
  refine gl_cons (gs_val (val_move rfl) rfl rfl rfl ?_)
  refine gl_cons (gs_val (val_sliceLH (l := n - 1) (h := n) ksl173 rfl rfl rfl (by omega) rfl ⟨by omega, hnc⟩) rfl rfl rfl ?_)
  refine gl_cons (gs_clear (m := 0) (off := (n - 1) * 10) (c := c - (n - 1)) (zs := apL 0#64 0 nilS) ksl173 kze70 (by kernel_rfl) rfl (by rw [sl_some (by omega), show n - (n - 1) = 0 + 1 by omega]) rfl (by rw [List.length_append, hel, hzl]; omega) rfl hs2 .head ?_)
  refine gl_nil ?_
  refine gk_seq ?_
  refine gc_seq ?_
  refine gc_region ?_
  refine gl_cons (gs_val (val_move rfl) rfl rfl rfl ?_)
  refine gl_cons (gs_val (val_assign rfl) rfl rfl rfl ?_)
  refine gl_nil ?_
  refine gk_seq ?_
  refine gc_ret ?_
  refine gk_ret rfl (resv_tmp rfl .nil) (List.Sublist.refl _) ?_
  exact ⟨_, (by show c * 10 ≤ _; rw [List.length_append, hel, List.length_append, hzl, List.length_drop]; omega), by show packed [Value.slice _ (i + (n - (i + 1))) c] = Value.slice _ (n - 1) c; rw [show i + (n - (i + 1)) = n - 1 by omega]; rfl, rfl⟩

/-- (*baize/tower.Tower).Drop -/
theorem dropT_none (bt room : Nat) (ml : List Am) (la : Option Addr) (c mb clk : Nat) (rows : List MRow) (NS NB : List Ent) (htw : TWm 70 ml la c rows NS NB) (h : BitVec 64) (hix : ixA h (ml.map Am.app) = none) : Turns Try.prog 42 ([.pointer (some ⟨bt, 0, none⟩), Dig h]).toArray (fun _ => True) (TWL 175 bt room la ml.length c mb clk rows NS NB) (fun _ : Unit => True) (fun _ => .bool false) (fun _ => TWL 175 bt room la ml.length c mb clk rows NS NB) := by
  refine spec_walk (n := 60) Try.func42 rfl rfl rfl (fun w0 hpre => ?_)
  refine gc_seq ?_
  refine gc_region ?_
  refine gl_cons (gs_box rfl rfl rfl rfl (fun b3 => ?_))
  refine gl_cons (gs_val (val_assign rfl) rfl rfl rfl ?_)
  refine gl_nil ?_
  refine gk_seq ?_
  refine gc_seq ?_
  refine gc_seq ?_
  refine gc_region ?_
  refine gl_cons (gs_val (val_move rfl) rfl rfl rfl ?_)
  refine gl_cons (gs_val (val_eqlNil kun66 rfl rfl) rfl rfl rfl ?_)
  refine gl_nil ?_
  refine gk_seq ?_
  refine gc_false rfl ?_
  refine gc_skip ?_
  refine gk_seq ?_
  refine gc_seq ?_
  refine gc_drawAll kmixed (by kernel_rfl) ?_
  refine gq_val (val_move rfl) rfl rfl rfl ?_
  refine gq_val (val_nilCheck rfl) rfl rfl rfl ?_
  refine gq_val (val_fieldAddr kfo175_2 rfl) rfl rfl rfl ?_
  refine gq_val (val_load1 kag172 rfl (sees_mem (by repeat (first | exact .head _ | refine .tail _ ?_ | refine List.mem_append_right _ ?_))) rfl) rfl rfl rfl ?_
  refine gq_val (val_loadA kag31 rfl (sees_mem (by repeat (first | exact .head _ | refine .tail _ ?_ | refine List.mem_append_right _ ?_))) rfl rfl) rfl rfl rfl ?_
  refine gq_val (val_cast (v := .tuple #[I64 0, .bool false]) (val_lookup2 (l := rows) (clk := clk) (d := h) (by kernel_rfl : mapT Try.prog 172 = some (31, 3)) kdig31 kze3 rfl rfl rfl (knows_mem (by repeat (first | exact .head _ | refine .tail _ ?_ | refine List.mem_append_right _ ?_)))) (look_tup_none (htw.lost hix))) rfl rfl rfl ?_
  refine gq_val (val_move rfl) rfl rfl rfl ?_
  refine gq_val (val_extract rfl rfl) rfl rfl rfl ?_
  refine gq_val (val_extract rfl rfl) rfl rfl rfl ?_
  refine gq_val (val_assign rfl) rfl rfl rfl ?_
  refine gq_val (val_assign rfl) rfl rfl rfl ?_
  refine gq_nil ?_
  refine gl_nil ?_
  refine gk_seq ?_
  refine gc_seq ?_
  refine gc_seq ?_
  refine gc_region ?_
  refine gl_cons (gs_val (val_move rfl) rfl rfl rfl ?_)
  refine gl_cons (gs_val (val_not rfl) rfl rfl rfl ?_)
  refine gl_nil ?_
  refine gk_seq ?_
  refine gc_true rfl ?_
  refine gc_seq ?_
  refine gc_region ?_
  refine gl_cons (gs_val (val_assign rfl) rfl rfl rfl ?_)
  refine gl_nil ?_
  refine gk_seq ?_
  refine gc_ret ?_
  refine gk_seq_ret ?_
  refine gk_ret rfl (resv_tmp rfl .nil) (.cons _ (List.Sublist.refl _)) ?_
  exact ⟨(), trivial, rfl, rfl⟩

/-- (*baize/tower.Tower).Drop -/
theorem dropT_some (bt room : Nat) (ml : List Am) (lb : Nat) (c mb clk : Nat) (rows : List MRow) (NS NB : List Ent) (htw : TWm 70 ml (some ⟨lb, 0, none⟩) c rows NS NB) (h : BitVec 64) (i : Nat) (hil : i < ml.length) (hix : ixA h (ml.map Am.app) = some i) (hnd : ((ml.map Am.app).map (·.1)).Nodup) (hbig : ml.length ≤ 4096) : Turns Try.prog 42 ([.pointer (some ⟨bt, 0, none⟩), Dig h]).toArray (fun _ => True) (TWL 175 bt room (some ⟨lb, 0, none⟩) ml.length c mb clk rows NS NB) (fun s : List Ent => TW 175 70 bt room ((ml.eraseIdx i).map Am.app) s) (fun _ => .bool true) (fun s => s) := by
  obtain ⟨junk, rfl, hxl, hcl, hncl⟩ := own_blk htw.own
  have hel : (ml.eraseIdx i).length = ml.length - 1 := by rw [List.length_eraseIdx, if_pos hil]
  have hnd2 : (((ml.eraseIdx i).map Am.app).map (·.1)).Nodup := by rw [← erase_map]; exact erase_nd hnd i
  refine spec_walk (n := 60) Try.func42 rfl rfl rfl (fun w0 hpre => ?_)
  refine gc_seq ?_
  refine gc_region ?_
  refine gl_cons (gs_box rfl rfl rfl rfl (fun b3 => ?_))
  refine gl_cons (gs_val (val_assign rfl) rfl rfl rfl ?_)
  refine gl_nil ?_
  refine gk_seq ?_
  refine gc_seq ?_
  refine gc_seq ?_
  refine gc_region ?_
  refine gl_cons (gs_val (val_move rfl) rfl rfl rfl ?_)
  refine gl_cons (gs_val (val_eqlNil kun66 rfl rfl) rfl rfl rfl ?_)
  refine gl_nil ?_
  refine gk_seq ?_
  refine gc_false rfl ?_
  refine gc_skip ?_
  refine gk_seq ?_
  refine gc_seq ?_
  refine gc_drawAll kmixed (by kernel_rfl) ?_
  refine gq_val (val_move rfl) rfl rfl rfl ?_
  refine gq_val (val_nilCheck rfl) rfl rfl rfl ?_
  refine gq_val (val_fieldAddr kfo175_2 rfl) rfl rfl rfl ?_
  refine gq_val (val_load1 kag172 rfl (sees_mem (by repeat (first | exact .head _ | refine .tail _ ?_ | refine List.mem_append_right _ ?_))) rfl) rfl rfl rfl ?_
  refine gq_val (val_loadA kag31 rfl (sees_mem (by repeat (first | exact .head _ | refine .tail _ ?_ | refine List.mem_append_right _ ?_))) rfl rfl) rfl rfl rfl ?_
  refine gq_val (val_cast (v := .tuple #[NV i, .bool true]) (val_lookup2 (l := rows) (clk := clk) (d := h) (by kernel_rfl : mapT Try.prog 172 = some (31, 3)) kdig31 kze3 rfl rfl rfl (knows_mem (by repeat (first | exact .head _ | refine .tail _ ?_ | refine List.mem_append_right _ ?_)))) (look_tup_some (htw.look hix))) rfl rfl rfl ?_
  refine gq_val (val_move rfl) rfl rfl rfl ?_
  refine gq_val (val_extract rfl rfl) rfl rfl rfl ?_
  refine gq_val (val_extract rfl rfl) rfl rfl rfl ?_
  refine gq_val (val_assign rfl) rfl rfl rfl ?_
  refine gq_val (val_assign rfl) rfl rfl rfl ?_
  refine gq_nil ?_
  refine gl_nil ?_
  refine gk_seq ?_
  refine gc_seq ?_
  refine gc_seq ?_
  refine gc_region ?_
  refine gl_cons (gs_val (val_move rfl) rfl rfl rfl ?_)
  refine gl_cons (gs_val (val_not rfl) rfl rfl rfl ?_)
  refine gl_nil ?_
  refine gk_seq ?_
  refine gc_false rfl ?_
  refine gc_skip ?_
  refine gk_seq ?_
  refine gc_seq ?_
  refine gc_region ?_
  refine gl_cons (gs_val (val_move rfl) rfl rfl rfl ?_)
  refine gl_cons (gs_val (val_move rfl) rfl rfl rfl ?_)
  refine gl_cons (gs_val (val_nilCheck rfl) rfl rfl rfl ?_)
  refine gl_cons (gs_val (val_fieldAddr kfo175_1 rfl) rfl rfl rfl ?_)
  refine gl_cons (gs_val (val_load1 kag173 rfl (sees_mem (by repeat (first | exact .head _ | refine .tail _ ?_ | refine List.mem_append_right _ ?_))) rfl) rfl rfl rfl ?_)
  refine gl_cons (gs_val (val_move rfl) rfl rfl rfl ?_)
  refine gl_cons (gs_val (val_move rfl) rfl rfl rfl ?_)
  refine gl_cons (gs_val (val_addI rfl rfl (by omega)) rfl rfl rfl ?_)
  refine gl_cons (gs_turns (enters kcall124 (.cons rfl (.cons rfl (.cons rfl .nil)))) (deleteA_ok lb ml.length c i ml junk rfl hil hncl hcl) rfl rfl rfl (.tail (.tail (.tail .app))) (fun _ _ => trivial) (fun r hr => ?_))
  have hr : c * 10 ≤ ((ml.eraseIdx i).flatMap Am.L ++ r).length := hr
  rw [← hel]
  have hown : Own 70 10 (some ⟨lb, 0, none⟩) (ml.eraseIdx i).length c ((ml.eraseIdx i).flatMap Am.L) [⟨lb, .cells ((ml.eraseIdx i).flatMap Am.L ++ r).toArray 70 (0, 0)⟩] := .blk (flatK_len am_len _) hr (by omega)
  refine gx_perm (List.perm_append_comm_assoc [_] [_, _, _] NB) ?_
  refine gl_cons (gs_val (val_nilCheck rfl) rfl rfl rfl ?_)
  refine gl_cons (gs_val (val_fieldAddr kfo175_1 rfl) rfl rfl rfl ?_)
  refine gl_cons (gs_store ksz173 rfl rfl rfl rfl rfl rfl (by first | exact .head | exact .tail .head | exact .tail (.tail .head) | exact .tail (.tail (.tail .head)) | exact .tail (.tail (.tail (.tail .head))) | exact .tail (.tail (.tail (.tail (.tail .head))))) (by simp) (by first | ((with_reducible refine splice_all _ _ ?_); simp; done) | (simp only [splice, stL, digL, List.take_succ_cons, List.take_zero, List.drop_succ_cons, List.drop_zero, List.length_cons, List.length_nil, Nat.reduceAdd, Nat.reduceMul, Nat.zero_add, Nat.zero_mul, List.cons_append, List.nil_append]; exact rfl)) ?_)
  refine gl_nil ?_
  refine gk_seq ?_
  refine gc_seq ?_
  refine gc_draw (m := 5) kmixed (by kernel_rfl) ?_
  refine gq_val (val_move rfl) rfl rfl rfl ?_
  refine gq_val (val_nilCheck rfl) rfl rfl rfl ?_
  refine gq_val (val_fieldAddr kfo175_2 rfl) rfl rfl rfl ?_
  refine gq_val (val_load1 kag172 rfl (sees_mem (by repeat (first | exact .head _ | refine .tail _ ?_ | refine List.mem_append_right _ ?_))) rfl) rfl rfl rfl ?_
  refine gq_val (val_loadA kag31 rfl (sees_mem (by repeat (first | exact .head _ | refine .tail _ ?_ | refine List.mem_append_right _ ?_))) rfl rfl) rfl rfl rfl ?_
  refine gq_nil ?_
  refine gl_cons (gs_delete0 (l := rows) (clk := clk) (d := h) (by kernel_rfl : mapT Try.prog 172 = some (31, 3)) kdig31 rfl rfl rfl rfl (.tail (.tail .head)) ?_)
  refine gl_nil ?_
  refine gk_seq ?_
  refine gc_seq ?_
  refine gc_seq ?_
  refine gc_region ?_
  refine gl_cons (gs_val (val_move rfl) rfl rfl rfl ?_)
  refine gl_cons (gs_val (val_assign rfl) rfl rfl rfl ?_)
  refine gl_nil ?_
  refine gk_seq ?_
  refine gc_block ?_
  refine gc_loop (σ := Nat × List MRow × Nat) (I := fun v => i ≤ v.1 ∧ v.1 ≤ (ml.eraseIdx i).length ∧ Num ((ml.eraseIdx i).map Am.app) i v.1 v.2.1) (μ := fun v => (ml.eraseIdx i).length - v.1) (EI := fun v => [(7, I64 (v.1 : Int)), (0, .pointer (some ⟨bt, 0, none⟩)), (4, .bool false)]) (LI := fun v => ⟨b3, .cells (digL h).toArray 31 (0, 0)⟩ :: twC 175 bt room (some ⟨lb, 0, none⟩) (ml.eraseIdx i).length c mb :: twM mb v.2.2 v.2.1 :: (⟨lb, .cells ((ml.eraseIdx i).flatMap Am.L ++ r).toArray 70 (0, 0)⟩ :: NB)) (i, dropD h rows, clk) ?_ ?_ ?_ ?_
  · exact ⟨Nat.le_refl _, by show i ≤ _; omega, num_start htw hnd hix⟩
  · exact (.cons rfl (.cons rfl (.cons rfl .nil)))
  · exact fun _ h => h
  · intro ⟨k, rk, ck⟩ ⟨hik, hkn, hnum⟩
    dsimp only
    have hkn : k ≤ (ml.eraseIdx i).length := hkn
    have hnum : Num ((ml.eraseIdx i).map Am.app) i k rk := hnum
    have hik : i ≤ k := hik
    refine gc_seq ?_
    refine gc_seq ?_
    refine gc_region ?_
    refine gl_cons (gs_val (val_move rfl) rfl rfl rfl ?_)
    refine gl_cons (gs_val (val_move rfl) rfl rfl rfl ?_)
    refine gl_cons (gs_val (val_nilCheck rfl) rfl rfl rfl ?_)
    refine gl_cons (gs_val (val_fieldAddr kfo175_1 rfl) rfl rfl rfl ?_)
    refine gl_cons (gs_val (val_load1 kag173 rfl (sees_mem (by repeat (first | exact .head _ | refine .tail _ ?_ | refine List.mem_append_right _ ?_))) rfl) rfl rfl rfl ?_)
    refine gl_cons (gs_val (val_lenSli ksl173 rfl) rfl rfl rfl ?_)
    refine gl_cons (gs_val (val_lss rfl rfl) rfl rfl rfl ?_)
    refine gl_nil ?_
    refine gk_seq ?_
    refine gc_if rfl (fun hj => ?_) (fun hj => ?_)
    · have hkl : k < (ml.eraseIdx i).length := by omega
      refine gc_skip ?_
      refine gk_seq ?_
      refine gc_seq ?_
      refine gc_block ?_
      refine gc_draw (m := 13) kmixed (by kernel_rfl) ?_
      refine gq_val (val_move rfl) rfl rfl rfl ?_
      refine gq_val (val_nilCheck rfl) rfl rfl rfl ?_
      refine gq_val (val_fieldAddr kfo175_2 rfl) rfl rfl rfl ?_
      refine gq_val (val_load1 kag172 rfl (sees_mem (by repeat (first | exact .head _ | refine .tail _ ?_ | refine List.mem_append_right _ ?_))) rfl) rfl rfl rfl ?_
      refine gq_val (val_move rfl) rfl rfl rfl ?_
      refine gq_val (val_nilCheck rfl) rfl rfl rfl ?_
      refine gq_val (val_fieldAddr kfo175_1 rfl) rfl rfl rfl ?_
      refine gq_val (val_load1 kag173 rfl (sees_mem (by repeat (first | exact .head _ | refine .tail _ ?_ | refine List.mem_append_right _ ?_))) rfl) rfl rfl rfl ?_
      refine gq_val (val_move rfl) rfl rfl rfl ?_
      refine gq_val (val_indexRow (m := k) ksl173 rfl rfl rfl hkl (hown.look (.tail (.tail (.tail (ReplT.app (N := [_])))))) hkl) rfl rfl rfl ?_
      refine gq_val (val_fieldAddr kfo70_0 rfl) rfl rfl rfl ?_
      refine gq_val (val_loadA kag31 rfl ((hown.look (.tail (.tail (.tail (ReplT.app (N := [_])))))).rowAt hkl 0) rfl rfl) rfl rfl rfl ?_
      refine gq_val (val_move rfl) rfl rfl rfl ?_
      refine gq_nil ?_
      refine gl_cons (gs_mapUpdate (l := rk) (clk := ck) (d := (ml.eraseIdx i)[k].h) (v := NV k) (by kernel_rfl : mapT Try.prog 172 = some (31, 3)) kdig31 rfl rfl rfl rfl rfl (.tail (.tail .head)) ?_)
      refine gl_nil ?_
      refine gk_block ?_
      refine gk_seq ?_
      refine gc_region ?_
      refine gl_cons (gs_val (val_move rfl) rfl rfl rfl ?_)
      refine gl_cons (gs_val (val_addI rfl rfl (by omega)) rfl rfl rfl ?_)
      refine gl_cons (gs_val (val_assign rfl) rfl rfl rfl ?_)
      refine gl_nil ?_
      refine gk_again (k + 1, (putD (ml.eraseIdx i)[k].h (NV k) rk ck).1, (putD (ml.eraseIdx i)[k].h (NV k) rk ck).2) ?_ ?_ ?_ ?_
      · exact ⟨by show i ≤ k + 1; omega, by show k + 1 ≤ _; omega, by have := num_step (clk := ck) hnum hnd2 (k := k) (by rw [List.length_map]; exact hkl); rw [List.getElem_map] at this; exact this⟩
      · show _ - (k + 1) < _ - k; omega
      · exact (.cons (rfl) (.cons (rfl) (.cons (rfl) .nil)))
      · exact fun _ h => h
    · obtain rfl : k = (ml.eraseIdx i).length := by omega
      refine gc_exit ?_
      refine gk_seq_exit ?_
      refine gk_loop_exit ?_
      refine gk_block_exit ?_
      refine gk_seq ?_
      refine gc_seq ?_
      refine gc_region ?_
      refine gl_cons (gs_val (val_assign rfl) rfl rfl rfl ?_)
      refine gl_nil ?_
      refine gk_seq ?_
      refine gc_ret ?_
      refine gk_ret rfl (resv_tmp rfl .nil) (.cons _ (List.Sublist.refl _)) ?_
      exact ⟨_, ⟨_, _, c, mb, ck, rk, _, NB, rfl, num_end hnum htw (fun a ha => List.mem_of_mem_eraseIdx ha) hown, rfl⟩, rfl, rfl⟩

theorem dropT_spec (bt room : Nat) (al : List App) (L0 : List Ent) (htw : TW 175 70 bt room al L0) (hf : Fit room al) (hr : room ≤ 4096) (h : BitVec 64) : Turns Try.prog 42 ([.pointer (some ⟨bt, 0, none⟩), Dig h]).toArray (fun _ => True) L0 (fun s : List Ent => TW 175 70 bt room (dropA al h) s) (fun _ => .bool (ixA h al).isSome) (fun s => s) := by
  have ht0 := htw
  obtain ⟨ml, la, c, mb, clk, rows, NS, NB, rfl, htm, rfl⟩ := htw.get
  cases hx : ixA h (ml.map Am.app) with
  | none => exact turns_mono (dropT_none bt room ml la c mb clk rows NS NB htm h hx) (fun _ h => h) (fun _ _ => ⟨_, by unfold dropA; rw [hx]; exact ht0, rfl, rfl⟩)
  | some i =>
    obtain ⟨hil, hih⟩ := ixA_lt hx
    obtain ⟨lb, rfl⟩ := tw_addr htm hil
    have hlen := hf.len
    rw [List.length_map] at hlen
    exact turns_mono (dropT_some bt room ml lb c mb clk rows NS NB htm h i hil hx hf.nd (by omega)) (fun _ h => h) (fun s hs => ⟨s, by unfold dropA; rw [hx]; simp only; rw [erase_map]; exact hs, rfl, rfl⟩)

end Go.Proofs.Ytddckbhlfeegoaa
