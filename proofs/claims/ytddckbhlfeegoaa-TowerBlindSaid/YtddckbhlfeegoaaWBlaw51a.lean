/- The walk of functions of the program: what each computes, for every input. -/
import Derived.Test.YtddckbhlfeegoaaWBFacts
import Derived.Test.YtddckbhlfeegoaaWBdeeds
namespace Go.Proofs.Ytddckbhlfeegoaa
open Go Go.Eng
set_option linter.unusedVariables false
set_option linter.unusedSimpArgs false

set_option maxRecDepth 8000 in
/-- baize/baizelaw51.TowerAlone -/
theorem towerAlone_un (ba : Option Addr) (n cap : Nat) (l : List De) (hn : l.length = n) (hm : n ≤ 140737488351232) (d : BitVec 64) (base : Int) (hf : fairD l = false) : Pure Try.prog 13 ([.slice ba n cap, Dig d, I64 base]).toArray (fun w => Row w [] ba (l.flatMap De.L)) (.bool true) := by
  refine spec_walk (n := 121) Try.func13 rfl rfl rfl (fun w0 hpre => ?_)
  refine gc_seq ?_
  refine gc_region ?_
  refine gl_cons (gs_box rfl rfl rfl rfl (fun b4 => ?_))
  refine gl_cons (gs_val (val_assign rfl) rfl rfl rfl ?_)
  refine gl_nil ?_
  refine gk_seq ?_
  refine gc_seq ?_
  refine gc_seq ?_
  refine gc_region ?_
  refine gl_cons (gs_val (val_move rfl) rfl rfl rfl ?_)
  refine gl_cons (gs_pure (enters kcall51 (.cons rfl .nil)) (fair_is ba n cap l hn hm hf) rfl rfl rfl (row_of_sees (sees_row hpre)) ?_)
  refine gl_cons (gs_val (val_not rfl) rfl rfl rfl ?_)
  refine gl_nil ?_
  refine gk_seq ?_
  refine gc_true rfl ?_
  refine gc_seq ?_
  refine gc_region ?_
  refine gl_cons (gs_pure (enters kcall47 .nil) (told51_spec) rfl rfl rfl (fun _ _ => trivial) ?_)
  refine gl_cons (gs_val (val_assign rfl) rfl rfl rfl ?_)
  refine gl_nil ?_
  refine gk_seq ?_
  refine gc_ret ?_
  refine gk_seq_ret ?_
  refine gk_ret rfl (resv_tmp rfl .nil) (List.nil_sublist _) ?_
  exact ⟨rfl, rfl⟩

set_option maxRecDepth 8000 in
/-- baize/baizelaw51.TowerAlone -/
theorem towerAlone_fair (ba : Option Addr) (n cap : Nat) (l : List De) (hn : l.length = n) (hm : n ≤ 140737488351232) (d : BitVec 64) (base : Int) (hf : fairD l = true) : Pure Try.prog 13 ([.slice ba n cap, Dig d, I64 base]).toArray (fun w => Row w [] ba (l.flatMap De.L)) (.bool true) := by
  obtain ⟨hfs, hfl⟩ := fair_of hf
  refine spec_walk (n := 121) Try.func13 rfl rfl rfl (fun w0 hpre => ?_)
  refine gc_seq ?_
  refine gc_region ?_
  refine gl_cons (gs_box rfl rfl rfl rfl (fun b4 => ?_))
  refine gl_cons (gs_val (val_assign rfl) rfl rfl rfl ?_)
  refine gl_nil ?_
  refine gk_seq ?_
  refine gc_seq ?_
  refine gc_seq ?_
  refine gc_region ?_
  refine gl_cons (gs_val (val_move rfl) rfl rfl rfl ?_)
  refine gl_cons (gs_pure (enters kcall51 (.cons rfl .nil)) (fair_is ba n cap l hn hm hf) rfl rfl rfl (row_of_sees (sees_row hpre)) ?_)
  refine gl_cons (gs_val (val_not rfl) rfl rfl rfl ?_)
  refine gl_nil ?_
  refine gk_seq ?_
  refine gc_false rfl ?_
  refine gc_skip ?_
  refine gk_seq ?_
  refine gc_seq ?_
  refine gc_region ?_
  refine gl_cons (gs_makes (enters kcall38 (.cons rfl .nil)) (newT_ok 100 (by omega) (by omega)) rfl rfl rfl (fun _ _ => trivial) (fun ⟨bt, Ls⟩ ht => ?_))
  have ht : TW 175 70 bt 100 [] Ls := ht
  refine gl_cons (gs_val (val_move rfl) rfl rfl rfl ?_)
  refine gl_cons (gs_val (val_extract rfl rfl) rfl rfl rfl ?_)
  refine gl_cons (gs_val (val_extract rfl rfl) rfl rfl rfl ?_)
  refine gl_cons (gs_val (val_assign rfl) rfl rfl rfl ?_)
  refine gl_cons (gs_val (val_assign rfl) rfl rfl rfl ?_)
  refine gl_nil ?_
  refine gk_seq ?_
  refine gc_seq ?_
  refine gc_region ?_
  refine gl_cons (gs_makes (enters kcall38 (.cons rfl .nil)) (newT_ok 100 (by omega) (by omega)) rfl rfl rfl (fun _ _ => trivial) (fun ⟨bu, Lv⟩ hv => ?_))
  have hv : TW 175 70 bu 100 [] Lv := hv
  refine gx_perm (List.perm_append_comm_assoc Lv Ls _) ?_
  refine gl_cons (gs_val (val_move rfl) rfl rfl rfl ?_)
  refine gl_cons (gs_val (val_extract rfl rfl) rfl rfl rfl ?_)
  refine gl_cons (gs_val (val_extract rfl rfl) rfl rfl rfl ?_)
  refine gl_cons (gs_val (val_assign rfl) rfl rfl rfl ?_)
  refine gl_cons (gs_val (val_assign rfl) rfl rfl rfl ?_)
  refine gl_nil ?_
  refine gk_seq ?_
  refine gc_seq ?_
  refine gc_seq ?_
  refine gc_region ?_
  refine gl_cons (gs_val (val_move rfl) rfl rfl rfl ?_)
  refine gl_cons (gs_val (val_eqlNil kun66 rfl rfl) rfl rfl rfl ?_)
  refine gl_cons (gs_val (val_move rfl) rfl rfl rfl ?_)
  refine gl_cons (gs_val (val_move rfl) rfl rfl rfl ?_)
  refine gl_cons (gs_val (val_eqlNil kun66 rfl rfl) rfl rfl rfl ?_)
  refine gl_cons (gs_val (val_pick_f rfl rfl) rfl rfl rfl ?_)
  refine gl_cons (gs_val (val_move rfl) rfl rfl rfl ?_)
  refine gl_cons (gs_val (val_move rfl) rfl rfl rfl ?_)
  refine gl_cons (gs_val (val_neq rfl rfl) rfl rfl rfl ?_)
  refine gl_cons (gs_val (val_pick_f rfl rfl) rfl rfl rfl ?_)
  refine gl_cons (gs_val (val_move rfl) rfl rfl rfl ?_)
  refine gl_cons (gs_val (val_move rfl) rfl rfl rfl ?_)
  refine gl_cons (gs_val (val_neq rfl rfl) rfl rfl rfl ?_)
  refine gl_cons (gs_val (val_pick_f rfl rfl) rfl rfl rfl ?_)
  refine gl_nil ?_
  refine gk_seq ?_
  refine gc_false rfl ?_
  refine gc_skip ?_
  refine gk_seq ?_
  refine gc_seq ?_
  refine gc_seq ?_
  refine gc_region ?_
  refine gl_cons (gs_val (val_assign rfl) rfl rfl rfl ?_)
  refine gl_nil ?_
  refine gk_seq ?_
  refine gc_block ?_
  refine gc_loop (σ := Nat × List App × List App × List Ent × List Ent) (I := fun v => v.1 ≤ n ∧ TW 175 70 bt 100 v.2.1 v.2.2.2.1 ∧ TW 175 70 bu 100 v.2.2.1 v.2.2.2.2 ∧ Al1 (hintW d) v.1 v.2.1 v.2.2.1) (μ := fun v => n - v.1) (EI := fun v => [(11, I64 (v.1 : Int)), (0, .slice ba n cap), (2, I64 base), (4, .pointer (some ⟨b4, 0, none⟩)), (7, .pointer (some ⟨bt, 0, none⟩)), (9, .pointer (some ⟨bu, 0, none⟩))]) (LI := fun v => v.2.2.2.1 ++ (v.2.2.2.2 ++ [⟨b4, .cells (digL d).toArray 30 (0, 0)⟩])) (0, [], [], Ls, Lv) ?_ ?_ ?_ ?_
  · exact ⟨Nat.zero_le _, ht, hv, al1_start _⟩
  · exact (.cons rfl (.cons rfl (.cons rfl (.cons rfl (.cons rfl (.cons rfl .nil))))))
  · exact fun _ h => h
  · intro ⟨i, ax, ay, Lx, Ly⟩ ⟨hin, htx, hty, hal⟩
    dsimp only
    have hin : i ≤ n := hin
    have htx : TW 175 70 bt 100 ax Lx := htx
    have hty : TW 175 70 bu 100 ay Ly := hty
    have hal : Al1 (hintW d) i ax ay := hal
    refine gc_seq ?_
    refine gc_seq ?_
    refine gc_region ?_
    refine gl_cons (gs_val (val_move rfl) rfl rfl rfl ?_)
    refine gl_cons (gs_val (val_move rfl) rfl rfl rfl ?_)
    refine gl_cons (gs_val (val_lenSli ksl93 rfl) rfl rfl rfl ?_)
    refine gl_cons (gs_val (val_lss rfl rfl) rfl rfl rfl ?_)
    refine gl_nil ?_
    refine gk_seq ?_
    refine gc_if rfl (fun hj => ?_) (fun hj => ?_)
    · have hjn : i < n := by omega
      have hil : i < l.length := by omega
      obtain ⟨ab, ao, hab⟩ := row_addr hpre (by rw [flatK_len de_len]; omega)
      refine gc_skip ?_
      refine gk_seq ?_
      refine gc_seq ?_
      refine gc_block ?_
      refine gc_seq ?_
      refine gc_region ?_
      refine gl_cons (gs_val (val_move rfl) rfl rfl rfl ?_)
      refine gl_cons (gs_val (val_move rfl) rfl rfl rfl ?_)
      refine gl_cons (gs_val (val_cast (v := .pointer (some ⟨ab, ao + i * 12, none⟩)) (val_indexSli (m := i) ksl93 rfl rfl rfl (by omega) (sees_row hpre) (by rw [flatK_len de_len]; omega)) (idx_eq hab)) rfl rfl rfl ?_)
      refine gl_cons (gs_val (val_loadA (ds := l[i].L) kag96 rfl ((sees_row hpre).rowK de_len hab hil) rfl rfl) rfl rfl rfl ?_)
      refine gl_cons (gs_alloc kze96 rfl rfl rfl (fun dx => ?_))
      refine gl_cons (gs_store ksz96 rfl rfl rfl rfl rfl rfl (by first | exact .head | exact .tail .head | exact .tail (.tail .head) | exact .tail (.tail (.tail .head)) | exact .tail (.tail (.tail (.tail .head))) | exact .tail (.tail (.tail (.tail (.tail .head))))) (by simp) (by first | ((with_reducible refine splice_all _ _ ?_); simp; done) | (simp only [splice, stL, digL, List.take_succ_cons, List.take_zero, List.drop_succ_cons, List.drop_zero, List.length_cons, List.length_nil, Nat.reduceAdd, Nat.reduceMul, Nat.zero_add, Nat.zero_mul, List.cons_append, List.nil_append]; exact rfl)) ?_)
      refine gl_nil ?_
      refine gk_seq ?_
      refine gc_seq ?_
      by_cases hm' : hintW l[i].nc = hintW d
      · skip
        refine gc_drawAll kmixed (by kernel_rfl) ?_
        refine gq_val (val_fieldAddr kfo96_2 rfl) rfl rfl rfl ?_
        refine gq_val (val_loadA kag30 rfl (sees_mem (by repeat (first | exact .head _ | refine .tail _ ?_ | refine List.mem_append_right _ ?_))) rfl rfl) rfl rfl rfl ?_
        refine gq_pure (enters kcall50 (.cons rfl .nil)) (rhint_spec l[i].nc) rfl rfl rfl (fun _ _ => trivial) ?_
        refine gq_val (val_loadA kag30 rfl (sees_mem (by repeat (first | exact .head _ | refine .tail _ ?_ | refine List.mem_append_right _ ?_))) rfl rfl) rfl rfl rfl ?_
        refine gq_pure (enters kcall50 (.cons rfl .nil)) (rhint_spec d) rfl rfl rfl (fun _ _ => trivial) ?_
        refine gq_val (val_yes (val_eqlDig kdig30 rfl rfl rfl rfl) hm') rfl rfl rfl ?_
        refine gq_val (val_assign rfl) rfl rfl rfl ?_
        refine gq_nil ?_
        refine gl_nil ?_
        refine gk_seq ?_
        refine gc_seq ?_
        refine gc_seq ?_
        by_cases hd : l[i].dr = true
        · skip
          refine gc_region ?_
          refine gl_cons (gs_val (val_fieldAddr kfo96_0 rfl) rfl rfl rfl ?_)
          refine gl_cons (gs_val (val_cast (v := .bool true) (val_load1 kag4 rfl (sees_mem (by repeat (first | exact .head _ | refine .tail _ ?_ | refine List.mem_append_right _ ?_))) rfl) (congrArg Value.bool hd)) rfl rfl rfl ?_)
          refine gl_nil ?_
          refine gk_seq ?_
          refine gc_true rfl ?_
          refine gc_seq ?_
          refine gc_region ?_
          refine gl_cons (gs_val (val_move rfl) rfl rfl rfl ?_)
          refine gl_cons (gs_val (val_fieldAddr kfo96_2 rfl) rfl rfl rfl ?_)
          refine gl_cons (gs_val (val_loadA kag30 rfl (sees_mem (by repeat (first | exact .head _ | refine .tail _ ?_ | refine List.mem_append_right _ ?_))) rfl rfl) rfl rfl rfl ?_)
          refine gl_cons (gs_pure (enters kcall49 (.cons rfl .nil)) (hint_spec l[i].nc) rfl rfl rfl (fun _ _ => trivial) ?_)
          refine gl_cons (gs_turns (enters kcall42 (.cons rfl (.cons rfl .nil))) (dropT_spec bt 100 ax Lx htx hal.fx (by decide) (hintW l[i].nc)) rfl rfl rfl (.tail .app) (fun _ _ => trivial) (fun Lx' htx' => ?_))
          have htx' : TW 175 70 bt 100 (dropA ax (hintW l[i].nc)) Lx' := htx'
          refine gl_cons (gs_val (val_assign rfl) rfl rfl rfl ?_)
          refine gl_nil ?_
          refine gk_seq ?_
          refine gc_seq ?_
          refine gc_seq ?_
          refine gc_region ?_
          refine gl_cons (gs_val (val_move rfl) rfl rfl rfl ?_)
          refine gl_cons (gs_val (val_move rfl) rfl rfl rfl ?_)
          refine gl_cons (gs_val (val_move rfl) rfl rfl rfl ?_)
          refine gl_cons (gs_val (val_fieldAddr kfo96_2 rfl) rfl rfl rfl ?_)
          refine gl_cons (gs_val (val_loadA kag30 rfl (sees_mem (by repeat (first | exact .head _ | refine .tail _ ?_ | refine List.mem_append_right _ ?_))) rfl rfl) rfl rfl rfl ?_)
          refine gl_cons (gs_pure (enters kcall49 (.cons rfl .nil)) (hint_spec l[i].nc) rfl rfl rfl (fun _ _ => trivial) ?_)
          refine gl_cons (gs_turns (enters kcall42 (.cons rfl (.cons rfl .nil))) (dropT_spec bu 100 ay Ly hty hal.fy (by decide) (hintW l[i].nc)) rfl rfl rfl (.appr (.tail .app)) (fun _ _ => trivial) (fun Ly' hty' => ?_))
          have hty' : TW 175 70 bu 100 (dropA ay (hintW l[i].nc)) Ly' := hty'
          refine gl_cons (gs_val (val_move rfl) rfl rfl rfl ?_)
          refine gl_cons (gs_val (val_cast (v := .bool false) (val_neqB kun4 rfl rfl) (congrArg Value.bool (by rw [fnd_some, fnd_some, hm', hal.eq]; exact bne_self_eq_false _))) rfl rfl rfl ?_)
          refine gl_cons (gs_val (val_pick_t rfl rfl) rfl rfl rfl ?_)
          refine gl_nil ?_
          refine gk_seq ?_
          refine gc_false rfl ?_
          refine gc_skip ?_
          refine gk_seq ?_
          refine gc_exit ?_
          refine gk_seq_exit ?_
          refine gk_block_exit ?_
          refine gk_seq ?_
          refine gc_region ?_
          refine gl_cons (gs_val (val_move rfl) rfl rfl rfl ?_)
          refine gl_cons (gs_val (val_addI rfl rfl (by omega)) rfl rfl rfl ?_)
          refine gl_cons (gs_val (val_assign rfl) rfl rfl rfl ?_)
          refine gl_nil ?_
          refine gk_again (i + 1, dropA ax (hintW l[i].nc), dropA ay (hintW l[i].nc), Lx', Ly') ?_ ?_ ?_ ?_
          · exact ⟨by show i + 1 ≤ n; omega, htx', hty', al1_drop hal⟩
          · show n - (i + 1) < n - i; omega
          · exact (.cons (rfl) (.cons (rfl) (.cons (rfl) (.cons (rfl) (.cons (rfl) (.cons (rfl) .nil))))))
          · exact fun _ h => (h.perm (List.perm_append_comm_assoc Ly' Lx' _)).sub (List.Sublist.append_left (List.Sublist.append_left (.cons _ (List.Sublist.refl _)) Ly') Lx')
        · skip
          refine gc_region ?_
          refine gl_cons (gs_val (val_fieldAddr kfo96_0 rfl) rfl rfl rfl ?_)
          refine gl_cons (gs_val (val_cast (v := .bool false) (val_load1 kag4 rfl (sees_mem (by repeat (first | exact .head _ | refine .tail _ ?_ | refine List.mem_append_right _ ?_))) rfl) (congrArg Value.bool (Bool.eq_false_iff.2 hd))) rfl rfl rfl ?_)
          refine gl_nil ?_
          refine gk_seq ?_
          refine gc_false rfl ?_
          refine gc_skip ?_
          refine gk_seq ?_
          refine gc_seq ?_
          refine gc_region ?_
          refine gl_cons (gs_val (val_move rfl) rfl rfl rfl ?_)
          refine gl_cons (gs_val (val_loadA (ds := l[i].L) kag96 rfl (sees_mem (by repeat (first | exact .head _ | refine .tail _ ?_ | refine List.mem_append_right _ ?_))) rfl rfl) rfl rfl rfl ?_)
          refine gl_cons (gs_pure (enters kcall53 (.cons rfl .nil)) (made_spec l[i]) rfl rfl rfl (fun _ _ => trivial) ?_)
          refine gl_cons (gs_makes (enters kcall52 (.cons rfl .nil)) (ownA_spec (hintW l[i].nc) l[i].nb ⟨(mdB l[i]).toArray⟩) rfl rfl rfl (fun _ _ => trivial) (fun ⟨oa, oac, oaj, oaz⟩ hoa => ?_))
          refine gl_cons (gs_turns (enters kcall41 (.cons rfl (.cons rfl .nil))) (takeT_spec bt 100 ax Lx htx hal.fx (by decide) (hintW l[i].nc) l[i].nb (some ⟨oa, 0, none⟩) (ByteArray.mk (mdB l[i]).toArray).size oac (mdB l[i]) (size_mk _).symm) rfl rfl rfl (.appr (.tail .app)) (row_of_entL (cs := (mdB l[i]).map U8) (junk := oaj) (.appr (.tail .app)) (.head _)) (fun Lx' htx' => ?_))
          have htx' : TW 175 70 bt 100 (takeA 100 ax (mdA l[i])) Lx' := htx'
          refine gl_cons (gs_val (val_assign rfl) rfl rfl rfl ?_)
          refine gl_nil ?_
          refine gk_seq ?_
          refine gc_seq ?_
          refine gc_region ?_
          refine gl_cons (gs_val (val_move rfl) rfl rfl rfl ?_)
          refine gl_cons (gs_val (val_move rfl) rfl rfl rfl ?_)
          refine gl_cons (gs_val (val_move rfl) rfl rfl rfl ?_)
          refine gl_cons (gs_val (val_loadA (ds := l[i].L) kag96 rfl (sees_mem (by repeat (first | exact .head _ | refine .tail _ ?_ | refine List.mem_append_right _ ?_))) rfl rfl) rfl rfl rfl ?_)
          refine gl_cons (gs_pure (enters kcall53 (.cons rfl .nil)) (made_spec l[i]) rfl rfl rfl (fun _ _ => trivial) ?_)
          refine gl_cons (gs_makes (enters kcall52 (.cons rfl .nil)) (ownA_spec (hintW l[i].nc) l[i].nb ⟨(mdB l[i]).toArray⟩) rfl rfl rfl (fun _ _ => trivial) (fun ⟨ob, obc, obj, obz⟩ hob => ?_))
          refine gl_cons (gs_turns (enters kcall41 (.cons rfl (.cons rfl .nil))) (takeT_spec bu 100 ay Ly hty hal.fy (by decide) (hintW l[i].nc) l[i].nb (some ⟨ob, 0, none⟩) (ByteArray.mk (mdB l[i]).toArray).size obc (mdB l[i]) (size_mk _).symm) rfl rfl rfl (.appr (.appr (.appr (.tail .app)))) (row_of_entL (cs := (mdB l[i]).map U8) (junk := obj) (.appr (.appr (.appr (.tail .app)))) (.head _)) (fun Ly' hty' => ?_))
          have hty' : TW 175 70 bu 100 (takeA 100 ay (mdA l[i])) Ly' := hty'
          refine gl_cons (gs_val (val_move rfl) rfl rfl rfl ?_)
          refine gl_cons (gs_val (val_no (val_neq rfl rfl) (not_not_intro (al1_code hal (by omega) hm'))) rfl rfl rfl ?_)
          refine gl_cons (gs_val (val_pick_t rfl rfl) rfl rfl rfl ?_)
          refine gl_nil ?_
          refine gk_seq ?_
          refine gc_false rfl ?_
          refine gc_skip ?_
          refine gk_block ?_
          refine gk_seq ?_
          refine gc_region ?_
          refine gl_cons (gs_val (val_move rfl) rfl rfl rfl ?_)
          refine gl_cons (gs_val (val_addI rfl rfl (by omega)) rfl rfl rfl ?_)
          refine gl_cons (gs_val (val_assign rfl) rfl rfl rfl ?_)
          refine gl_nil ?_
          refine gk_again (i + 1, takeA 100 ax (mdA l[i]), takeA 100 ay (mdA l[i]), Lx', Ly') ?_ ?_ ?_ ?_
          · exact ⟨by show i + 1 ≤ n; omega, htx', hty', al1_take hal (by omega) hm'⟩
          · show n - (i + 1) < n - i; omega
          · exact (.cons (rfl) (.cons (rfl) (.cons (rfl) (.cons (rfl) (.cons (rfl) (.cons (rfl) .nil))))))
          · exact fun _ h => (h.perm ((perm_takeL (R := Ly' ++ ([_] ++ ([_] ++ (_ :: [_])))) (.appr (.appr .app)) (.refl _)))).sub (List.Sublist.append_left (List.Sublist.append_left (.cons _ (.cons _ (.cons _ (List.Sublist.refl _)))) Ly') Lx')
      · skip
        refine gc_drawAll kmixed (by kernel_rfl) ?_
        refine gq_val (val_fieldAddr kfo96_2 rfl) rfl rfl rfl ?_
        refine gq_val (val_loadA kag30 rfl (sees_mem (by repeat (first | exact .head _ | refine .tail _ ?_ | refine List.mem_append_right _ ?_))) rfl rfl) rfl rfl rfl ?_
        refine gq_pure (enters kcall50 (.cons rfl .nil)) (rhint_spec l[i].nc) rfl rfl rfl (fun _ _ => trivial) ?_
        refine gq_val (val_loadA kag30 rfl (sees_mem (by repeat (first | exact .head _ | refine .tail _ ?_ | refine List.mem_append_right _ ?_))) rfl rfl) rfl rfl rfl ?_
        refine gq_pure (enters kcall50 (.cons rfl .nil)) (rhint_spec d) rfl rfl rfl (fun _ _ => trivial) ?_
        refine gq_val (val_no (val_eqlDig kdig30 rfl rfl rfl rfl) hm') rfl rfl rfl ?_
        refine gq_val (val_assign rfl) rfl rfl rfl ?_
        refine gq_nil ?_
        refine gl_nil ?_
        refine gk_seq ?_
        refine gc_seq ?_
        refine gc_seq ?_
        by_cases hd : l[i].dr = true
        · skip
          refine gc_region ?_
          refine gl_cons (gs_val (val_fieldAddr kfo96_0 rfl) rfl rfl rfl ?_)
          refine gl_cons (gs_val (val_cast (v := .bool true) (val_load1 kag4 rfl (sees_mem (by repeat (first | exact .head _ | refine .tail _ ?_ | refine List.mem_append_right _ ?_))) rfl) (congrArg Value.bool hd)) rfl rfl rfl ?_)
          refine gl_nil ?_
          refine gk_seq ?_
          refine gc_true rfl ?_
          refine gc_seq ?_
          refine gc_region ?_
          refine gl_cons (gs_val (val_move rfl) rfl rfl rfl ?_)
          refine gl_cons (gs_val (val_fieldAddr kfo96_2 rfl) rfl rfl rfl ?_)
          refine gl_cons (gs_val (val_loadA kag30 rfl (sees_mem (by repeat (first | exact .head _ | refine .tail _ ?_ | refine List.mem_append_right _ ?_))) rfl rfl) rfl rfl rfl ?_)
          refine gl_cons (gs_pure (enters kcall49 (.cons rfl .nil)) (hint_spec l[i].nc) rfl rfl rfl (fun _ _ => trivial) ?_)
          refine gl_cons (gs_turns (enters kcall42 (.cons rfl (.cons rfl .nil))) (dropT_spec bt 100 ax Lx htx hal.fx (by decide) (hintW l[i].nc)) rfl rfl rfl (.tail .app) (fun _ _ => trivial) (fun Lx' htx' => ?_))
          have htx' : TW 175 70 bt 100 (dropA ax (hintW l[i].nc)) Lx' := htx'
          refine gl_cons (gs_val (val_assign rfl) rfl rfl rfl ?_)
          refine gl_nil ?_
          refine gk_seq ?_
          refine gc_seq ?_
          refine gc_seq ?_
          refine gc_region ?_
          refine gl_cons (gs_val (val_move rfl) rfl rfl rfl ?_)
          refine gl_cons (gs_val (val_move rfl) rfl rfl rfl ?_)
          refine gl_cons (gs_skip rfl rfl rfl ?_)
          refine gl_cons (gs_skip rfl rfl rfl ?_)
          refine gl_cons (gs_skip rfl rfl rfl ?_)
          refine gl_cons (gs_skip rfl rfl rfl ?_)
          refine gl_cons (gs_skip rfl rfl rfl ?_)
          refine gl_cons (gs_skip rfl rfl rfl ?_)
          refine gl_cons (gs_skip rfl rfl rfl ?_)
          refine gl_cons (gs_val (val_pick_f rfl rfl) rfl rfl rfl ?_)
          refine gl_nil ?_
          refine gk_seq ?_
          refine gc_false rfl ?_
          refine gc_skip ?_
          refine gk_seq ?_
          refine gc_exit ?_
          refine gk_seq_exit ?_
          refine gk_block_exit ?_
          refine gk_seq ?_
          refine gc_region ?_
          refine gl_cons (gs_val (val_move rfl) rfl rfl rfl ?_)
          refine gl_cons (gs_val (val_addI rfl rfl (by omega)) rfl rfl rfl ?_)
          refine gl_cons (gs_val (val_assign rfl) rfl rfl rfl ?_)
          refine gl_nil ?_
          refine gk_again (i + 1, dropA ax (hintW l[i].nc), ay, Lx', Ly) ?_ ?_ ?_ ?_
          · exact ⟨by show i + 1 ≤ n; omega, htx', hty, al1_drop1 hal hm'⟩
          · show n - (i + 1) < n - i; omega
          · exact (.cons (rfl) (.cons (rfl) (.cons (rfl) (.cons (rfl) (.cons (rfl) (.cons (rfl) .nil))))))
          · exact fun _ h => h.sub (List.Sublist.append_left (.cons _ (List.Sublist.refl _)) Lx')
        · skip
          refine gc_region ?_
          refine gl_cons (gs_val (val_fieldAddr kfo96_0 rfl) rfl rfl rfl ?_)
          refine gl_cons (gs_val (val_cast (v := .bool false) (val_load1 kag4 rfl (sees_mem (by repeat (first | exact .head _ | refine .tail _ ?_ | refine List.mem_append_right _ ?_))) rfl) (congrArg Value.bool (Bool.eq_false_iff.2 hd))) rfl rfl rfl ?_)
          refine gl_nil ?_
          refine gk_seq ?_
          refine gc_false rfl ?_
          refine gc_skip ?_
          refine gk_seq ?_
          refine gc_seq ?_
          refine gc_region ?_
          refine gl_cons (gs_val (val_move rfl) rfl rfl rfl ?_)
          refine gl_cons (gs_val (val_loadA (ds := l[i].L) kag96 rfl (sees_mem (by repeat (first | exact .head _ | refine .tail _ ?_ | refine List.mem_append_right _ ?_))) rfl rfl) rfl rfl rfl ?_)
          refine gl_cons (gs_pure (enters kcall53 (.cons rfl .nil)) (made_spec l[i]) rfl rfl rfl (fun _ _ => trivial) ?_)
          refine gl_cons (gs_makes (enters kcall52 (.cons rfl .nil)) (ownA_spec (hintW l[i].nc) l[i].nb ⟨(mdB l[i]).toArray⟩) rfl rfl rfl (fun _ _ => trivial) (fun ⟨oa, oac, oaj, oaz⟩ hoa => ?_))
          refine gl_cons (gs_turns (enters kcall41 (.cons rfl (.cons rfl .nil))) (takeT_spec bt 100 ax Lx htx hal.fx (by decide) (hintW l[i].nc) l[i].nb (some ⟨oa, 0, none⟩) (ByteArray.mk (mdB l[i]).toArray).size oac (mdB l[i]) (size_mk _).symm) rfl rfl rfl (.appr (.tail .app)) (row_of_entL (cs := (mdB l[i]).map U8) (junk := oaj) (.appr (.tail .app)) (.head _)) (fun Lx' htx' => ?_))
          have htx' : TW 175 70 bt 100 (takeA 100 ax (mdA l[i])) Lx' := htx'
          refine gl_cons (gs_val (val_assign rfl) rfl rfl rfl ?_)
          refine gl_nil ?_
          refine gk_seq ?_
          refine gc_seq ?_
          refine gc_region ?_
          refine gl_cons (gs_val (val_move rfl) rfl rfl rfl ?_)
          refine gl_cons (gs_val (val_move rfl) rfl rfl rfl ?_)
          refine gl_cons (gs_skip rfl rfl rfl ?_)
          refine gl_cons (gs_skip rfl rfl rfl ?_)
          refine gl_cons (gs_skip rfl rfl rfl ?_)
          refine gl_cons (gs_skip rfl rfl rfl ?_)
          refine gl_cons (gs_skip rfl rfl rfl ?_)
          refine gl_cons (gs_skip rfl rfl rfl ?_)
          refine gl_cons (gs_skip rfl rfl rfl ?_)
          refine gl_cons (gs_val (val_pick_f rfl rfl) rfl rfl rfl ?_)
          refine gl_nil ?_
          refine gk_seq ?_
          refine gc_false rfl ?_
          refine gc_skip ?_
          refine gk_block ?_
          refine gk_seq ?_
          refine gc_region ?_
          refine gl_cons (gs_val (val_move rfl) rfl rfl rfl ?_)
          refine gl_cons (gs_val (val_addI rfl rfl (by omega)) rfl rfl rfl ?_)
          refine gl_cons (gs_val (val_assign rfl) rfl rfl rfl ?_)
          refine gl_nil ?_
          refine gk_again (i + 1, takeA 100 ax (mdA l[i]), ay, Lx', Ly) ?_ ?_ ?_ ?_
          · exact ⟨by show i + 1 ≤ n; omega, htx', hty, al1_take1 hal hm'⟩
          · show n - (i + 1) < n - i; omega
          · exact (.cons (rfl) (.cons (rfl) (.cons (rfl) (.cons (rfl) (.cons (rfl) (.cons (rfl) .nil))))))
          · exact fun _ h => h.sub (List.Sublist.append_left (.cons _ (.cons _ (List.Sublist.refl _))) Lx')
    · obtain rfl : n = i := by omega
      refine gc_exit ?_
      refine gk_seq_exit ?_
      refine gk_loop_exit ?_
      refine gk_block_exit ?_
      refine gk_seq ?_
      refine gc_seq ?_
      refine gc_region ?_
      refine gl_cons (gs_val (val_move rfl) rfl rfl rfl ?_)
      refine gl_cons (gs_val (val_loadA kag30 rfl (sees_mem (by repeat (first | exact .head _ | refine .tail _ ?_ | refine List.mem_append_right _ ?_))) rfl rfl) rfl rfl rfl ?_)
      refine gl_cons (gs_val (val_move rfl) rfl rfl rfl ?_)
      refine gl_cons (gs_turns (enters kcall40 (.cons rfl (.cons rfl (.cons rfl .nil)))) (seeT_spec bt 100 ax Lx htx hal.fx (by decide) d base) rfl rfl rfl .app (fun _ _ => trivial) (fun ⟨ob, oc, oN, oL⟩ ⟨ho, _⟩ => ?_))
      have ho : Has oN ob ((seeB ax d base).map U8) := ho
      refine gl_cons (gs_val (val_move rfl) rfl rfl rfl ?_)
      refine gl_cons (gs_val (val_extract rfl rfl) rfl rfl rfl ?_)
      refine gl_cons (gs_val (val_extract rfl rfl) rfl rfl rfl ?_)
      refine gl_cons (gs_val (val_assign rfl) rfl rfl rfl ?_)
      refine gl_cons (gs_val (val_assign rfl) rfl rfl rfl ?_)
      refine gl_nil ?_
      refine gk_seq ?_
      refine gc_seq ?_
      refine gc_region ?_
      refine gl_cons (gs_val (val_move rfl) rfl rfl rfl ?_)
      refine gl_cons (gs_val (val_loadA kag30 rfl (sees_mem (by repeat (first | exact .head _ | refine .tail _ ?_ | refine List.mem_append_right _ ?_))) rfl rfl) rfl rfl rfl ?_)
      refine gl_cons (gs_val (val_move rfl) rfl rfl rfl ?_)
      refine gl_cons (gs_turns (enters kcall40 (.cons rfl (.cons rfl (.cons rfl .nil)))) (seeT_spec bu 100 ay Ly hty hal.fy (by decide) d base) rfl rfl rfl (.appr .app) (fun _ _ => trivial) (fun ⟨pb, pc, pN, pL⟩ ⟨hp, _⟩ => ?_))
      have hp : Has pN pb ((seeB ay d base).map U8) := hp
      have hse : seeV ax d base = seeV ay d base := seeV_fnd hal.eq
      refine gl_cons (gs_val (val_move rfl) rfl rfl rfl ?_)
      refine gl_cons (gs_val (val_extract rfl rfl) rfl rfl rfl ?_)
      refine gl_cons (gs_val (val_extract rfl rfl) rfl rfl rfl ?_)
      refine gl_cons (gs_val (val_assign rfl) rfl rfl rfl ?_)
      refine gl_cons (gs_val (val_assign rfl) rfl rfl rfl ?_)
      refine gl_nil ?_
      refine gk_seq ?_
      refine gc_seq ?_
      refine gc_region ?_
      refine gl_cons (gs_val (val_move rfl) rfl rfl rfl ?_)
      refine gl_cons (gs_val (val_move rfl) rfl rfl rfl ?_)
      refine gl_cons (gs_val (val_cast (v := .bool true) (val_eqlB kun4 rfl rfl) (congrArg Value.bool (by rw [hse]; exact beq_self_eq_true _))) rfl rfl rfl ?_)
      refine gl_cons (gs_val (val_move rfl) rfl rfl rfl ?_)
      refine gl_cons (gs_val (val_move rfl) rfl rfl rfl ?_)
      refine gl_cons (gs_val (val_bytesStr kun54 kun5 kun9 rfl (by first | rfl | assumption | simp | omega) (ho.sees (fun w hi => hi.sub ((List.sublist_append_left oN oL).trans ((List.sublist_append_left _ _).trans (List.sublist_append_right _ _)))))) rfl rfl rfl ?_)
      refine gl_cons (gs_val (val_move rfl) rfl rfl rfl ?_)
      refine gl_cons (gs_val (val_bytesStr kun54 kun5 kun9 rfl (by first | rfl | assumption | simp | omega) (hp.sees (fun w hi => hi.sub ((List.sublist_append_left pN pL).trans (List.sublist_append_left _ _))))) rfl rfl rfl ?_)
      refine gl_cons (gs_val (val_yes (val_eqlS rfl rfl) (by rw [show seeB ax d base = seeB ay d base by unfold seeB; rw [hse]])) rfl rfl rfl ?_)
      refine gl_cons (gs_val (val_pick_t rfl rfl) rfl rfl rfl ?_)
      refine gl_cons (gs_val (val_move rfl) rfl rfl rfl ?_)
      refine gl_cons (gs_pure (enters kcall47 .nil) (told51_spec) rfl rfl rfl (fun _ _ => trivial) ?_)
      refine gl_cons (gs_val (val_pick_t rfl rfl) rfl rfl rfl ?_)
      refine gl_cons (gs_val (val_assign rfl) rfl rfl rfl ?_)
      refine gl_nil ?_
      refine gk_seq ?_
      refine gc_ret ?_
      refine gk_ret rfl (resv_tmp rfl .nil) (List.nil_sublist _) ?_
      exact ⟨rfl, rfl⟩

theorem towerAlone_walk (ba : Option Addr) (n cap : Nat) (l : List De) (hn : l.length = n) (hm : n ≤ 140737488351232) (d : BitVec 64) (base : Int) : Pure Try.prog 13 ([.slice ba n cap, Dig d, I64 base]).toArray (fun w => Row w [] ba (l.flatMap De.L)) (.bool true) := by
  cases hf : fairD l with
  | true => exact towerAlone_fair ba n cap l hn hm d base hf
  | false => exact towerAlone_un ba n cap l hn hm d base hf

end Go.Proofs.Ytddckbhlfeegoaa
