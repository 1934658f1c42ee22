/- The walk of functions of the program: what each computes, for every input. -/
import Derived.Test.YtddckbhlfeegoaaWBFacts
import Derived.Test.YtddckbhlfeegoaaWBlaw51a
namespace Go.Proofs.Ytddckbhlfeegoaa
open Go Go.Eng
set_option linter.unusedVariables false
set_option linter.unusedSimpArgs false

/-- (*baize/tower.Tower).Size -/
theorem sizeT_some (bt room : Nat) (ml : List Am) (la : Option Addr) (c mb clk : Nat) (rows : List MRow) (NS NB : List Ent) (htw : TWm 70 ml la c rows NS NB) (hbx : ∀ a ∈ ml, a.bl.length ≤ 32776) (hbig : ml.length ≤ 4096) : Turns Try.prog 44 ([.pointer (some ⟨bt, 0, none⟩)]).toArray (fun _ => True) (TWL 175 bt room la ml.length c mb clk rows NS NB) (fun _ : Unit => True) (fun _ => I64 ((sumN ml ml.length : Nat) : Int)) (fun _ => TWL 175 bt room la ml.length c mb clk rows NS NB) := by
  refine spec_walk (n := 24) Try.func44 rfl rfl rfl (fun w0 hpre => ?_)
  refine gc_seq ?_
  refine gc_region ?_
  refine gl_cons (gs_val (val_assign rfl) rfl rfl rfl ?_)
  refine gl_nil ?_
  refine gk_seq ?_
  refine gc_seq ?_
  refine gc_seq ?_
  refine gc_region ?_
  refine gl_cons (gs_val (val_move rfl) rfl rfl rfl ?_)
  refine gl_cons (gs_val (val_eqlNil kun66 rfl rfl) rfl rfl rfl ?_)
  refine gl_nil ?_
  refine gk_seq ?_
  refine gc_false rfl ?_
  refine gc_skip ?_
  refine gk_seq ?_
  refine gc_seq ?_
  refine gc_region ?_
  refine gl_cons (gs_val (val_assign rfl) rfl rfl rfl ?_)
  refine gl_nil ?_
  refine gk_seq ?_
  refine gc_seq ?_
  refine gc_seq ?_
  refine gc_region ?_
  refine gl_cons (gs_val (val_move rfl) rfl rfl rfl ?_)
  refine gl_cons (gs_val (val_nilCheck rfl) rfl rfl rfl ?_)
  refine gl_cons (gs_val (val_fieldAddr kfo175_1 rfl) rfl rfl rfl ?_)
  refine gl_cons (gs_val (val_load1 kag173 rfl (sees_mem (by repeat (first | exact .head _ | refine .tail _ ?_ | refine List.mem_append_right _ ?_))) rfl) rfl rfl rfl ?_)
  refine gl_cons (gs_val (val_lenSli ksl173 rfl) rfl rfl rfl ?_)
  refine gl_cons (gs_val (val_move rfl) rfl rfl rfl ?_)
  refine gl_nil ?_
  refine gk_seq ?_
  refine gc_block ?_
  refine gc_loop (σ := Nat × Unit) (I := fun v => v.1 ≤ ml.length) (μ := fun v => ml.length - v.1) (EI := fun v => [(3, I64 ((sumN ml v.1 : Nat) : Int)), (11, .slice la ml.length c), (12, I64 (ml.length : Int)), (13, I64 (v.1 : Int)), (2, .int .i64 0)]) (LI := fun v => TWL 175 bt room la ml.length c mb clk rows NS NB) (0, ()) ?_ ?_ ?_ ?_
  · exact Nat.zero_le _
  · exact (.cons rfl (.cons rfl (.cons rfl (.cons rfl (.cons rfl .nil)))))
  · exact fun _ h => h
  · intro ⟨k, u0⟩ hkn
    dsimp only
    have hkn : k ≤ ml.length := hkn
    refine gc_seq ?_
    refine gc_region ?_
    refine gl_cons (gs_val (val_lss rfl rfl) rfl rfl rfl ?_)
    refine gl_nil ?_
    refine gk_seq ?_
    refine gc_seq ?_
    refine gc_if rfl (fun hj => ?_) (fun hj => ?_)
    · have hkl : k < ml.length := by omega
      obtain ⟨lb, rfl⟩ := tw_addr htw hkl
      have hs1 := sumN_le hbx k
      have hs2 : ml[k].bl.length ≤ 32776 := hbx ml[k] (List.getElem_mem hkl)
      have hs3 : k * 32776 ≤ 4096 * 32776 := Nat.mul_le_mul_right _ (by omega)
      refine gc_skip ?_
      refine gk_seq ?_
      refine gc_seq ?_
      refine gc_block ?_
      refine gc_seq ?_
      refine gc_region ?_
      refine gl_cons (gs_val (val_indexRow (m := k) ksl173 rfl rfl rfl hkl (htw.own.look (by repeat (first | exact .here | exact .headR | exact .app | refine .tail ?_ | refine .appr ?_))) hkl) rfl rfl rfl ?_)
      refine gl_cons (gs_val (val_loadA (ds := ml[k].L) kag70 rfl ((htw.own.look (by repeat (first | exact .here | exact .headR | exact .app | refine .tail ?_ | refine .appr ?_))).row10' hkl) rfl rfl) rfl rfl rfl ?_)
      refine gl_cons (gs_alloc kze70 rfl rfl rfl (fun b5 => ?_))
      refine gl_cons (gs_store ksz70 rfl rfl rfl rfl rfl rfl (by first | exact .head | exact .tail .head | exact .tail (.tail .head) | exact .tail (.tail (.tail .head)) | exact .tail (.tail (.tail (.tail .head))) | exact .tail (.tail (.tail (.tail (.tail .head))))) (by simp) (by first | ((with_reducible refine splice_all _ _ ?_); simp; done) | (simp only [splice, stL, digL, List.take_succ_cons, List.take_zero, List.drop_succ_cons, List.drop_zero, List.length_cons, List.length_nil, Nat.reduceAdd, Nat.reduceMul, Nat.zero_add, Nat.zero_mul, List.cons_append, List.nil_append]; exact rfl)) ?_)
      refine gl_nil ?_
      refine gk_seq ?_
      refine gc_region ?_
      refine gl_cons (gs_val (val_move rfl) rfl rfl rfl ?_)
      refine gl_cons (gs_val (val_fieldAddr kfo70_2 rfl) rfl rfl rfl ?_)
      refine gl_cons (gs_val (val_load1 kag54 rfl (sees_mem (by repeat (first | exact .head _ | refine .tail _ ?_ | refine List.mem_append_right _ ?_))) rfl) rfl rfl rfl ?_)
      refine gl_cons (gs_val (val_lenSli ksl54 rfl) rfl rfl rfl ?_)
      refine gl_cons (gs_val (val_addI rfl rfl (by omega)) rfl rfl rfl ?_)
      refine gl_cons (gs_val (val_assign rfl) rfl rfl rfl ?_)
      refine gl_nil ?_
      refine gk_block ?_
      refine gk_seq ?_
      refine gc_region ?_
      refine gl_cons (gs_val (val_addI rfl rfl (by omega)) rfl rfl rfl ?_)
      refine gl_cons (gs_val (val_move rfl) rfl rfl rfl ?_)
      refine gl_nil ?_
      refine gk_again (k + 1, ()) ?_ ?_ ?_ ?_
      · show k + 1 ≤ ml.length; omega
      · show ml.length - (k + 1) < ml.length - k; omega
      · refine .cons (congrArg (fun z : Int => some (I64 z)) (by show ((sumN ml k : Nat) : Int) + (ml[k].bl.length : Int) = ((sumN ml (k + 1) : Nat) : Int); rw [sumN_step hkl]; rfl)) ?_; repeat (first | exact .nil | refine .cons rfl ?_)
      · exact fun _ h => h.sub (List.sublist_cons_self _ _)
    · obtain rfl : k = ml.length := by omega
      refine gc_exit ?_
      refine gk_seq_exit ?_
      refine gk_loop_exit ?_
      refine gk_block_exit ?_
      refine gk_seq ?_
      refine gc_seq ?_
      refine gc_region ?_
      refine gl_cons (gs_val (val_move rfl) rfl rfl rfl ?_)
      refine gl_cons (gs_val (val_assign rfl) rfl rfl rfl ?_)
      refine gl_nil ?_
      refine gk_seq ?_
      refine gc_ret ?_
      refine gk_ret rfl (resv_tmp rfl .nil) (List.Sublist.refl _) ?_
      exact ⟨(), trivial, rfl, rfl⟩

/-- (*baize/tower.Tower).Has -/
theorem hasT_some (bt room : Nat) (ml : List Am) (la : Option Addr) (c mb clk : Nat) (rows : List MRow) (NS NB : List Ent) (htw : TWm 70 ml la c rows NS NB) (hbig : ml.length ≤ 4096) : Turns Try.prog 43 ([.pointer (some ⟨bt, 0, none⟩)]).toArray (fun _ => True) (TWL 175 bt room la ml.length c mb clk rows NS NB) (fun s : Option Addr × Nat × List Ent => Own 31 8 s.1 ml.length s.2.1 (((ml.take ml.length).map (·.h)).flatMap digL) s.2.2) (fun s => .slice s.1 ml.length s.2.1) (fun s => s.2.2 ++ TWL 175 bt room la ml.length c mb clk rows NS NB) := by
  refine spec_walk (n := 24) Try.func43 rfl rfl rfl (fun w0 hpre => ?_)
  refine gc_seq ?_
  refine gc_region ?_
  refine gl_cons (gs_val (val_assign rfl) rfl rfl rfl ?_)
  refine gl_nil ?_
  refine gk_seq ?_
  refine gc_seq ?_
  refine gc_seq ?_
  refine gc_region ?_
  refine gl_cons (gs_val (val_move rfl) rfl rfl rfl ?_)
  refine gl_cons (gs_val (val_eqlNil kun66 rfl rfl) rfl rfl rfl ?_)
  refine gl_nil ?_
  refine gk_seq ?_
  refine gc_false rfl ?_
  refine gc_skip ?_
  refine gk_seq ?_
  refine gc_seq ?_
  refine gc_region ?_
  refine gl_cons (gs_val (val_assign rfl) rfl rfl rfl ?_)
  refine gl_nil ?_
  refine gk_seq ?_
  refine gc_seq ?_
  refine gc_seq ?_
  refine gc_region ?_
  refine gl_cons (gs_val (val_move rfl) rfl rfl rfl ?_)
  refine gl_cons (gs_val (val_nilCheck rfl) rfl rfl rfl ?_)
  refine gl_cons (gs_val (val_fieldAddr kfo175_1 rfl) rfl rfl rfl ?_)
  refine gl_cons (gs_val (val_load1 kag173 rfl (sees_mem (by repeat (first | exact .head _ | refine .tail _ ?_ | refine List.mem_append_right _ ?_))) rfl) rfl rfl rfl ?_)
  refine gl_cons (gs_val (val_lenSli ksl173 rfl) rfl rfl rfl ?_)
  refine gl_cons (gs_val (val_move rfl) rfl rfl rfl ?_)
  refine gl_nil ?_
  refine gk_seq ?_
  refine gc_block ?_
  refine gc_loop (σ := Nat × Option Addr × Nat × List Ent) (I := fun v => v.1 ≤ ml.length ∧ Own 31 8 v.2.1 v.1 v.2.2.1 (((ml.take v.1).map (·.h)).flatMap digL) v.2.2.2) (μ := fun v => ml.length - v.1) (EI := fun v => [(3, .slice v.2.1 v.1 v.2.2.1), (11, .slice la ml.length c), (12, I64 (ml.length : Int)), (13, I64 (v.1 : Int))]) (LI := fun v => v.2.2.2 ++ TWL 175 bt room la ml.length c mb clk rows NS NB) (0, none, 0, []) ?_ ?_ ?_ ?_
  · exact ⟨Nat.zero_le _, .nil⟩
  · exact (.cons rfl (.cons rfl (.cons rfl (.cons rfl .nil))))
  · exact fun _ h => h
  · intro ⟨k, ha, hc, hN⟩ ⟨hkn, hown⟩
    dsimp only
    have hkn : k ≤ ml.length := hkn
    have hown : Own 31 8 ha k hc (((ml.take k).map (·.h)).flatMap digL) hN := hown
    refine gc_seq ?_
    refine gc_region ?_
    refine gl_cons (gs_val (val_lss rfl rfl) rfl rfl rfl ?_)
    refine gl_nil ?_
    refine gk_seq ?_
    refine gc_seq ?_
    refine gc_if rfl (fun hj => ?_) (fun hj => ?_)
    · have hkl : k < ml.length := by omega
      obtain ⟨lb, rfl⟩ := tw_addr htw hkl
      refine gc_skip ?_
      refine gk_seq ?_
      refine gc_seq ?_
      refine gc_block ?_
      refine gc_seq ?_
      refine gc_region ?_
      refine gl_cons (gs_val (val_indexRow (m := k) ksl173 rfl rfl rfl hkl (htw.own.look (by repeat (first | exact .here | exact .headR | exact .app | refine .tail ?_ | refine .appr ?_))) hkl) rfl rfl rfl ?_)
      refine gl_cons (gs_val (val_loadA (ds := ml[k].L) kag70 rfl ((htw.own.look (by repeat (first | exact .here | exact .headR | exact .app | refine .tail ?_ | refine .appr ?_))).row10' hkl) rfl rfl) rfl rfl rfl ?_)
      refine gl_cons (gs_alloc kze70 rfl rfl rfl (fun b5 => ?_))
      refine gl_cons (gs_store ksz70 rfl rfl rfl rfl rfl rfl (by first | exact .head | exact .tail .head | exact .tail (.tail .head) | exact .tail (.tail (.tail .head)) | exact .tail (.tail (.tail (.tail .head))) | exact .tail (.tail (.tail (.tail (.tail .head))))) (by simp) (by first | ((with_reducible refine splice_all _ _ ?_); simp; done) | (simp only [splice, stL, digL, List.take_succ_cons, List.take_zero, List.drop_succ_cons, List.drop_zero, List.length_cons, List.length_nil, Nat.reduceAdd, Nat.reduceMul, Nat.zero_add, Nat.zero_mul, List.cons_append, List.nil_append]; exact rfl)) ?_)
      refine gl_nil ?_
      refine gk_seq ?_
      refine gc_region ?_
      refine gl_cons (gs_val (val_move rfl) rfl rfl rfl ?_)
      refine gl_cons (gs_val (val_fieldAddr kfo70_0 rfl) rfl rfl rfl ?_)
      refine gl_cons (gs_val (val_loadA (ds := digL ml[k].h) kag31 rfl (sees_mem (by repeat (first | exact .head _ | refine .tail _ ?_ | refine List.mem_append_right _ ?_))) rfl rfl) rfl rfl rfl ?_)
      refine gl_cons (gs_buildSlice (zs := [.int .u8 0, .int .u8 0, .int .u8 0, .int .u8 0, .int .u8 0, .int .u8 0, .int .u8 0, .int .u8 0]) ksl77 kze31 rfl rfl (.cons rfl .nil) (.cons rfl rfl rfl (by simp) (by first | ((with_reducible refine splice_all _ _ ?_); simp; done) | (simp only [splice, stL, digL, List.take_succ_cons, List.take_zero, List.drop_succ_cons, List.drop_zero, List.length_cons, List.length_nil, Nat.reduceAdd, Nat.reduceMul, Nat.zero_add, Nat.zero_mul, List.cons_append, List.nil_append]; exact rfl)) .nil) rfl rfl (fun b20 => ?_))
      refine gl_cons (gs_append ksl77 kze31 rfl rfl rfl rfl rfl rfl (hown) (fun _ => by first | exact .here | exact .headR | exact .app | exact .tail .here | exact .tail .headR | exact .tail .app | exact .tail (.tail .here) | exact .tail (.tail .headR) | exact .tail (.tail .app) | exact .tail (.tail (.tail .here)) | exact .tail (.tail (.tail .headR)) | exact .tail (.tail (.tail .app)) | exact .tail (.tail (.tail (.tail .here))) | exact .tail (.tail (.tail (.tail .headR))) | exact .tail (.tail (.tail (.tail .app))) | exact .tail (.tail (.tail (.tail (.tail .here)))) | exact .tail (.tail (.tail (.tail (.tail .headR)))) | exact .tail (.tail (.tail (.tail (.tail .app)))) | exact .appr .here | exact .appr .headR | exact .appr .app | exact .tail (.appr .here) | exact .tail (.appr .headR) | exact .tail (.appr .app) | exact .tail (.tail (.appr .here)) | exact .tail (.tail (.appr .headR)) | exact .tail (.tail (.appr .app)) | exact .appr (.tail .here) | exact .appr (.tail .headR) | exact .appr (.tail .app) | exact .appr (.tail (.tail .here)) | exact .appr (.tail (.tail .headR)) | exact .appr (.tail (.tail .app)) | exact .appr (.appr .here) | exact .appr (.appr .headR) | exact .appr (.appr .app) | exact .tail (.appr (.appr .here)) | exact .tail (.appr (.appr .headR)) | exact .tail (.appr (.appr .app)) | exact .appr (.appr (.tail .here)) | exact .appr (.appr (.tail .headR)) | exact .appr (.appr (.tail .app)) | exact .appr (.appr (.appr .here)) | exact .appr (.appr (.appr .headR)) | exact .appr (.appr (.appr .app))) (brings_slice ksl77 (sees_all (by repeat (first | exact .head _ | refine .tail _ ?_ | refine List.mem_append_right _ ?_))) rfl (one_dig _)) (by omega) (fun ba21 c21 N21 hown21 => ?_))
      refine gl_cons (gs_val (val_assign rfl) rfl rfl rfl ?_)
      refine gl_nil ?_
      refine gk_block ?_
      refine gk_seq ?_
      refine gc_region ?_
      refine gl_cons (gs_val (val_addI rfl rfl (by omega)) rfl rfl rfl ?_)
      refine gl_cons (gs_val (val_move rfl) rfl rfl rfl ?_)
      refine gl_nil ?_
      refine gk_again (k + 1, ba21, c21, N21) ?_ ?_ ?_ ?_
      · exact ⟨by show k + 1 ≤ _; omega, by show Own 31 8 ba21 (k + 1) c21 (((ml.take (k + 1)).map (·.h)).flatMap digL) N21; rw [hints_step hkl]; exact hown21⟩
      · show ml.length - (k + 1) < ml.length - k; omega
      · exact (.cons (rfl) (.cons (rfl) (.cons (rfl) (.cons (rfl) .nil))))
      · exact fun _ h => (h.sub (.cons _ (.cons _ (List.Sublist.refl _))))
    · obtain rfl : k = ml.length := by omega
      refine gc_exit ?_
      refine gk_seq_exit ?_
      refine gk_loop_exit ?_
      refine gk_block_exit ?_
      refine gk_seq ?_
      refine gc_seq ?_
      refine gc_region ?_
      refine gl_cons (gs_val (val_move rfl) rfl rfl rfl ?_)
      refine gl_cons (gs_val (val_assign rfl) rfl rfl rfl ?_)
      refine gl_nil ?_
      refine gk_seq ?_
      refine gc_ret ?_
      refine gk_ret rfl (resv_tmp rfl .nil) (List.Sublist.refl _) ?_
      exact ⟨(ha, hc, hN), hown, rfl, rfl⟩

theorem sizeT_spec (bt room : Nat) (al : List App) (L0 : List Ent) (htw : TW 175 70 bt room al L0) (hf : Fit room al) (hr : room ≤ 4096) : Turns Try.prog 44 ([.pointer (some ⟨bt, 0, none⟩)]).toArray (fun _ => True) L0 (fun _ : Unit => True) (fun _ => I64 ((sizeA al : Nat) : Int)) (fun _ => L0) := by
  obtain ⟨ml, la, c, mb, clk, rows, NS, NB, rfl, htm, rfl⟩ := htw.get
  have hlen := hf.len
  rw [List.length_map] at hlen
  have := sizeT_some bt room ml la c mb clk rows NS NB htm (fun a ha => hf.box a.app (List.mem_map.2 ⟨a, ha, rfl⟩)) (by omega)
  rw [sumN_all] at this
  exact this

theorem hasT_spec (bt room : Nat) (al : List App) (L0 : List Ent) (htw : TW 175 70 bt room al L0) (hf : Fit room al) (hr : room ≤ 4096) : Turns Try.prog 43 ([.pointer (some ⟨bt, 0, none⟩)]).toArray (fun _ => True) L0 (fun s : Option Addr × Nat × List Ent => Own 31 8 s.1 al.length s.2.1 ((al.map (·.1)).flatMap digL) s.2.2) (fun s => .slice s.1 al.length s.2.1) (fun s => s.2.2 ++ L0) := by
  obtain ⟨ml, la, c, mb, clk, rows, NS, NB, rfl, htm, rfl⟩ := htw.get
  have hlen := hf.len
  rw [List.length_map] at hlen
  have := hasT_some bt room ml la c mb clk rows NS NB htm (by omega)
  rw [List.take_length] at this
  rw [List.map_map, List.length_map]
  exact this

end Go.Proofs.Ytddckbhlfeegoaa
