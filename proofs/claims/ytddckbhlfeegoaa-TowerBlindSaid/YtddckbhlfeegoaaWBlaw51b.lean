/- The walk of functions of the program: what each computes, for every input. -/
import Derived.Test.YtddckbhlfeegoaaWBFacts
import Derived.Test.YtddckbhlfeegoaaWBtower6
namespace Go.Proofs.Ytddckbhlfeegoaa
open Go Go.Eng
set_option linter.unusedVariables false
set_option linter.unusedSimpArgs false

set_option maxRecDepth 8000 in
/-- baize/baizelaw51.TowerBlind -/
theorem towerBlind_un (rm : UInt8) (ba : Option Addr) (n cap : Nat) (l : List De) (hn : l.length = n) (hm : n ≤ 140737488351232) (bo : Option Addr) (no co : Nat) (o : List UInt8) (ho : o.length = no) (hf : fairD l = false) : Pure Try.prog 14 ([U8 rm, .slice ba n cap, .slice bo no co]).toArray (fun w => Row w [] ba (l.flatMap De.L) ∧ Row w [] bo (o.map U8)) (.bool true) := by
  refine spec_walk (n := 150) Try.func14 rfl rfl rfl (fun w0 hpre => ?_)
  obtain ⟨hpre, hpo⟩ := hpre
  refine gc_seq ?_
  refine gc_region ?_
  refine gl_cons (gs_val (val_assign rfl) rfl rfl rfl ?_)
  refine gl_nil ?_
  refine gk_seq ?_
  refine gc_seq ?_
  refine gc_seq ?_
  refine gc_region ?_
  refine gl_cons (gs_val (val_move rfl) rfl rfl rfl ?_)
  refine gl_cons (gs_pure (enters kcall51 (.cons rfl .nil)) (fair_is ba n cap l hn hm hf) rfl rfl rfl (row_of_sees (sees_row hpre)) ?_)
  refine gl_cons (gs_val (val_not rfl) rfl rfl rfl ?_)
  refine gl_cons (gs_val (val_move rfl) rfl rfl rfl ?_)
  refine gl_cons (gs_skip rfl rfl rfl ?_)
  refine gl_cons (gs_skip rfl rfl rfl ?_)
  refine gl_cons (gs_skip rfl rfl rfl ?_)
  refine gl_cons (gs_val (val_pick_t rfl rfl) rfl rfl rfl ?_)
  refine gl_nil ?_
  refine gk_seq ?_
  refine gc_true rfl ?_
  refine gc_seq ?_
  refine gc_region ?_
  refine gl_cons (gs_pure (enters kcall47 .nil) (told51_spec) rfl rfl rfl (fun _ _ => trivial) ?_)
  refine gl_cons (gs_val (val_assign rfl) rfl rfl rfl ?_)
  refine gl_nil ?_
  refine gk_seq ?_
  refine gc_ret ?_
  refine gk_seq_ret ?_
  refine gk_ret rfl (resv_tmp rfl .nil) (List.nil_sublist _) ?_
  exact ⟨rfl, rfl⟩

set_option maxRecDepth 8000 in
/-- baize/baizelaw51.TowerBlind -/
theorem towerBlind_no (rm : UInt8) (ba : Option Addr) (n cap : Nat) (l : List De) (hn : l.length = n) (hm : n ≤ 140737488351232) (bo : Option Addr) (no co : Nat) (o : List UInt8) (ho : o.length = no) (hf : fairD l = true) (h0 : no = 0) : Pure Try.prog 14 ([U8 rm, .slice ba n cap, .slice bo no co]).toArray (fun w => Row w [] ba (l.flatMap De.L) ∧ Row w [] bo (o.map U8)) (.bool true) := by
  refine spec_walk (n := 150) Try.func14 rfl rfl rfl (fun w0 hpre => ?_)
  obtain ⟨hpre, hpo⟩ := hpre
  refine gc_seq ?_
  refine gc_region ?_
  refine gl_cons (gs_val (val_assign rfl) rfl rfl rfl ?_)
  refine gl_nil ?_
  refine gk_seq ?_
  refine gc_seq ?_
  refine gc_seq ?_
  refine gc_region ?_
  refine gl_cons (gs_val (val_move rfl) rfl rfl rfl ?_)
  refine gl_cons (gs_pure (enters kcall51 (.cons rfl .nil)) (fair_is ba n cap l hn hm hf) rfl rfl rfl (row_of_sees (sees_row hpre)) ?_)
  refine gl_cons (gs_val (val_not rfl) rfl rfl rfl ?_)
  refine gl_cons (gs_val (val_move rfl) rfl rfl rfl ?_)
  refine gl_cons (gs_val (val_move rfl) rfl rfl rfl ?_)
  refine gl_cons (gs_val (val_lenSli ksl54 rfl) rfl rfl rfl ?_)
  refine gl_cons (gs_val (val_yes (val_eql rfl rfl) (by omega)) rfl rfl rfl ?_)
  refine gl_cons (gs_val (val_pick_f rfl rfl) rfl rfl rfl ?_)
  refine gl_nil ?_
  refine gk_seq ?_
  refine gc_true rfl ?_
  refine gc_seq ?_
  refine gc_region ?_
  refine gl_cons (gs_pure (enters kcall47 .nil) (told51_spec) rfl rfl rfl (fun _ _ => trivial) ?_)
  refine gl_cons (gs_val (val_assign rfl) rfl rfl rfl ?_)
  refine gl_nil ?_
  refine gk_seq ?_
  refine gc_ret ?_
  refine gk_seq_ret ?_
  refine gk_ret rfl (resv_tmp rfl .nil) (List.nil_sublist _) ?_
  exact ⟨rfl, rfl⟩

set_option maxRecDepth 8000 in
set_option maxHeartbeats 2000000 in
/-- baize/baizelaw51.TowerBlind -/
theorem towerBlind_fair (rm : UInt8) (ba : Option Addr) (n cap : Nat) (l : List De) (hn : l.length = n) (hm : n ≤ 140737488351232) (bo : Option Addr) (no co : Nat) (o : List UInt8) (ho : o.length = no) (hf : fairD l = true) (hno : 0 < no) : Pure Try.prog 14 ([U8 rm, .slice ba n cap, .slice bo no co]).toArray (fun w => Row w [] ba (l.flatMap De.L) ∧ Row w [] bo (o.map U8)) (.bool true) := by
  obtain ⟨hfs, hfl⟩ := fair_of hf
  obtain ⟨r, hr⟩ : ∃ r, 1 + rm.toNat % 8 = r := ⟨_, rfl⟩
  refine spec_walk (n := 150) Try.func14 rfl rfl rfl (fun w0 hpre => ?_)
  obtain ⟨hpre, hpo⟩ := hpre
  refine gc_seq ?_
  refine gc_region ?_
  refine gl_cons (gs_val (val_assign rfl) rfl rfl rfl ?_)
  refine gl_nil ?_
  refine gk_seq ?_
  refine gc_seq ?_
  refine gc_seq ?_
  refine gc_region ?_
  refine gl_cons (gs_val (val_move rfl) rfl rfl rfl ?_)
  refine gl_cons (gs_pure (enters kcall51 (.cons rfl .nil)) (fair_is ba n cap l hn hm hf) rfl rfl rfl (row_of_sees (sees_row hpre)) ?_)
  refine gl_cons (gs_val (val_not rfl) rfl rfl rfl ?_)
  refine gl_cons (gs_val (val_move rfl) rfl rfl rfl ?_)
  refine gl_cons (gs_val (val_move rfl) rfl rfl rfl ?_)
  refine gl_cons (gs_val (val_lenSli ksl54 rfl) rfl rfl rfl ?_)
  refine gl_cons (gs_val (val_no (val_eql rfl rfl) (by omega)) rfl rfl rfl ?_)
  refine gl_cons (gs_val (val_pick_f rfl rfl) rfl rfl rfl ?_)
  refine gl_nil ?_
  refine gk_seq ?_
  refine gc_false rfl ?_
  refine gc_skip ?_
  refine gk_seq ?_
  refine gc_seq ?_
  refine gc_region ?_
  refine gl_cons (gs_val (val_move rfl) rfl rfl rfl ?_)
  refine gl_cons (gs_val (val_rem8 (k := 8) rfl rfl rfl (by decide)) rfl rfl rfl ?_)
  refine gl_cons (gs_val (val_convI rfl kis5 kun3 (by omega)) rfl rfl rfl ?_)
  refine gl_cons (gs_val (val_cast (v := I64 (r : Int)) (val_addI rfl rfl (by omega)) (congrArg I64 (by omega))) rfl rfl rfl ?_)
  refine gl_cons (gs_makes (enters kcall38 (.cons rfl .nil)) (newT_ok r (by omega) (by omega)) rfl rfl rfl (fun _ _ => trivial) (fun ⟨bt, Ls⟩ ht => ?_))
  have ht : TW 175 70 bt r [] Ls := ht
  refine gl_cons (gs_val (val_move rfl) rfl rfl rfl ?_)
  refine gl_cons (gs_val (val_extract rfl rfl) rfl rfl rfl ?_)
  refine gl_cons (gs_val (val_extract rfl rfl) rfl rfl rfl ?_)
  refine gl_cons (gs_val (val_assign rfl) rfl rfl rfl ?_)
  refine gl_cons (gs_val (val_assign rfl) rfl rfl rfl ?_)
  refine gl_nil ?_
  refine gk_seq ?_
  refine gc_seq ?_
  refine gc_region ?_
  refine gl_cons (gs_val (val_move rfl) rfl rfl rfl ?_)
  refine gl_cons (gs_val (val_rem8 (k := 8) rfl rfl rfl (by decide)) rfl rfl rfl ?_)
  refine gl_cons (gs_val (val_convI rfl kis5 kun3 (by omega)) rfl rfl rfl ?_)
  refine gl_cons (gs_val (val_cast (v := I64 (r : Int)) (val_addI rfl rfl (by omega)) (congrArg I64 (by omega))) rfl rfl rfl ?_)
  refine gl_cons (gs_makes (enters kcall38 (.cons rfl .nil)) (newT_ok r (by omega) (by omega)) rfl rfl rfl (fun _ _ => trivial) (fun ⟨bu, Lv⟩ hv => ?_))
  have hv : TW 175 70 bu r [] Lv := hv
  refine gx_perm (List.perm_append_comm_assoc Lv Ls _) ?_
  refine gl_cons (gs_val (val_move rfl) rfl rfl rfl ?_)
  refine gl_cons (gs_val (val_extract rfl rfl) rfl rfl rfl ?_)
  refine gl_cons (gs_val (val_extract rfl rfl) rfl rfl rfl ?_)
  refine gl_cons (gs_val (val_assign rfl) rfl rfl rfl ?_)
  refine gl_cons (gs_val (val_assign rfl) rfl rfl rfl ?_)
  refine gl_nil ?_
  refine gk_seq ?_
  refine gc_seq ?_
  refine gc_seq ?_
  refine gc_region ?_
  refine gl_cons (gs_val (val_move rfl) rfl rfl rfl ?_)
  refine gl_cons (gs_val (val_eqlNil kun66 rfl rfl) rfl rfl rfl ?_)
  refine gl_cons (gs_val (val_move rfl) rfl rfl rfl ?_)
  refine gl_cons (gs_val (val_move rfl) rfl rfl rfl ?_)
  refine gl_cons (gs_val (val_eqlNil kun66 rfl rfl) rfl rfl rfl ?_)
  refine gl_cons (gs_val (val_pick_f rfl rfl) rfl rfl rfl ?_)
  refine gl_cons (gs_val (val_move rfl) rfl rfl rfl ?_)
  refine gl_cons (gs_val (val_move rfl) rfl rfl rfl ?_)
  refine gl_cons (gs_val (val_neq rfl rfl) rfl rfl rfl ?_)
  refine gl_cons (gs_val (val_pick_f rfl rfl) rfl rfl rfl ?_)
  refine gl_cons (gs_val (val_move rfl) rfl rfl rfl ?_)
  refine gl_cons (gs_val (val_move rfl) rfl rfl rfl ?_)
  refine gl_cons (gs_val (val_neq rfl rfl) rfl rfl rfl ?_)
  refine gl_cons (gs_val (val_pick_f rfl rfl) rfl rfl rfl ?_)
  refine gl_nil ?_
  refine gk_seq ?_
  refine gc_false rfl ?_
  refine gc_skip ?_
  refine gk_seq ?_
  refine gc_seq ?_
  refine gc_seq ?_
  refine gc_region ?_
  refine gl_cons (gs_val (val_assign rfl) rfl rfl rfl ?_)
  refine gl_nil ?_
  refine gk_seq ?_
  refine gc_block ?_
  refine gc_loop (σ := Nat × List App × List App × List Ent × List Ent) (I := fun v => v.1 ≤ n ∧ TW 175 70 bt r v.2.1 v.2.2.2.1 ∧ TW 175 70 bu r v.2.2.1 v.2.2.2.2 ∧ Al2 r v.2.1 v.2.2.1) (μ := fun v => n - v.1) (EI := fun v => [(11, I64 (v.1 : Int)), (1, .slice ba n cap), (2, .slice bo no co), (7, .pointer (some ⟨bt, 0, none⟩)), (9, .pointer (some ⟨bu, 0, none⟩))]) (LI := fun v => v.2.2.2.1 ++ (v.2.2.2.2 ++ [])) (0, [], [], Ls, Lv) ?_ ?_ ?_ ?_
  · exact ⟨Nat.zero_le _, ht, hv, al2_start _⟩
  · exact (.cons rfl (.cons rfl (.cons rfl (.cons rfl (.cons rfl .nil)))))
  · exact fun _ h => h
  · intro ⟨i, ax, ay, Lx, Ly⟩ ⟨hin, htx, hty, hal⟩
    dsimp only
    have hin : i ≤ n := hin
    have htx : TW 175 70 bt r ax Lx := htx
    have hty : TW 175 70 bu r ay Ly := hty
    have hal : Al2 r ax ay := hal
    refine gc_seq ?_
    refine gc_seq ?_
    refine gc_region ?_
    refine gl_cons (gs_val (val_move rfl) rfl rfl rfl ?_)
    refine gl_cons (gs_val (val_move rfl) rfl rfl rfl ?_)
    refine gl_cons (gs_val (val_lenSli ksl93 rfl) rfl rfl rfl ?_)
    refine gl_cons (gs_val (val_lss rfl rfl) rfl rfl rfl ?_)
    refine gl_nil ?_
    refine gk_seq ?_
    refine gc_if rfl (fun hj => ?_) (fun hj => ?_)
    · have hjn : i < n := by omega
      have hil : i < l.length := by omega
      obtain ⟨ab, ao, hab⟩ := row_addr hpre (by rw [flatK_len de_len]; omega)
      have hsz : l[i].s.size ≤ 300 := hfs _ (List.getElem_mem hil)
      refine gc_skip ?_
      refine gk_seq ?_
      refine gc_seq ?_
      refine gc_block ?_
      refine gc_seq ?_
      refine gc_region ?_
      refine gl_cons (gs_val (val_move rfl) rfl rfl rfl ?_)
      refine gl_cons (gs_val (val_move rfl) rfl rfl rfl ?_)
      refine gl_cons (gs_val (val_cast (v := .pointer (some ⟨ab, ao + i * 12, none⟩)) (val_indexSli (m := i) ksl93 rfl rfl rfl (by omega) (sees_row hpre) (by rw [flatK_len de_len]; omega)) (idx_eq hab)) rfl rfl rfl ?_)
      refine gl_cons (gs_val (val_loadA (ds := l[i].L) kag96 rfl ((sees_row hpre).rowK de_len hab hil) rfl rfl) rfl rfl rfl ?_)
      refine gl_cons (gs_alloc kze96 rfl rfl rfl (fun dx => ?_))
      refine gl_cons (gs_store ksz96 rfl rfl rfl rfl rfl rfl (by first | exact .head | exact .tail .head | exact .tail (.tail .head) | exact .tail (.tail (.tail .head)) | exact .tail (.tail (.tail (.tail .head))) | exact .tail (.tail (.tail (.tail (.tail .head))))) (by simp) (by first | ((with_reducible refine splice_all _ _ ?_); simp; done) | (simp only [splice, stL, digL, List.take_succ_cons, List.take_zero, List.drop_succ_cons, List.drop_zero, List.length_cons, List.length_nil, Nat.reduceAdd, Nat.reduceMul, Nat.zero_add, Nat.zero_mul, List.cons_append, List.nil_append]; exact rfl)) ?_)
      refine gl_nil ?_
      refine gk_seq ?_
      refine gc_seq ?_
      refine gc_seq ?_
      by_cases hd : l[i].dr = true
      · skip
        refine gc_region ?_
        refine gl_cons (gs_val (val_fieldAddr kfo96_0 rfl) rfl rfl rfl ?_)
        refine gl_cons (gs_val (val_cast (v := .bool true) (val_load1 kag4 rfl (sees_mem (by repeat (first | exact .head _ | refine .tail _ ?_ | refine List.mem_append_right _ ?_))) rfl) (congrArg Value.bool hd)) rfl rfl rfl ?_)
        refine gl_nil ?_
        refine gk_seq ?_
        refine gc_true rfl ?_
        refine gc_seq ?_
        refine gc_seq ?_
        refine ga_start (m := 11) (ls := [false, false, false, false, false, false, false, false, false, false, false]) kmixed rfl rfl ?_
        apply share1 (α := List Ent) (m' := 3) (ls' := [true, true, true, true, true, true, true, true, false, false, false])
        · intro hD0
          apply share0  (m' := 4) (ls' := [true, true, true, true, false, true, true, true, false, false, false])
          · intro hD1
            apply share0  (m' := 5) (ls' := [true, true, true, false, false, true, true, true, false, false, false])
            · intro hD2
              refine ga_take (i := 0) (ls' := [true, false, false, false, false, false, false, false, false, false, false]) rfl (by kernel_rfl) rfl (fun _ _ _ => val_move rfl) rfl rfl rfl ?_
              refine ga_take (i := 1) (ls' := [true, true, false, false, false, false, false, false, false, false, false]) rfl (by kernel_rfl) rfl (fun _ _ _ => val_fieldAddr kfo96_2 rfl) rfl rfl rfl ?_
              refine ga_take (i := 5) (ls' := [true, true, false, false, false, true, false, false, false, false, false]) rfl (by kernel_rfl) rfl (fun _ _ _ => val_move rfl) rfl rfl rfl ?_
              refine ga_take (i := 6) (ls' := [true, true, false, false, false, true, true, false, false, false, false]) rfl (by kernel_rfl) rfl (fun _ _ _ => val_fieldAddr kfo96_2 rfl) rfl rfl rfl ?_
              refine ga_branch (rs := [2, 7]) (by kernel_rfl) rfl (.cons (ls' := [true, true, true, false, false, true, true, false, false, false, false]) rfl rfl ?_ (.cons (ls' := [true, true, false, false, false, true, true, true, false, false, false]) rfl rfl ?_ .nil))
              · skip
                refine gs_val (val_loadA kag30 rfl (sees_mem (by repeat (first | exact .head _ | refine .tail _ ?_ | refine List.mem_append_right _ ?_))) rfl rfl) rfl rfl rfl ?_
                refine ga_branch (rs := [3, 7]) (by kernel_rfl) rfl (.cons (ls' := [true, true, true, true, false, true, true, false, false, false, false]) rfl rfl ?_ (.cons (ls' := [true, true, true, false, false, true, true, true, false, false, false]) rfl rfl ?_ .nil))
                · skip
                  refine gs_pure (enters kcall49 (.cons rfl .nil)) (hint_spec l[i].nc) rfl rfl rfl (fun _ _ => trivial) ?_
                  refine ga_branch (rs := [4, 7]) (by kernel_rfl) rfl (.cons (ls' := [true, true, true, true, true, true, true, false, false, false, false]) rfl rfl ?_ (.cons (ls' := [true, true, true, true, false, true, true, true, false, false, false]) rfl rfl ?_ .nil))
                  · skip
                    refine gs_turns (enters kcall42 (.cons rfl (.cons rfl .nil))) (dropT_spec bt r ax Lx htx hal.fx (by omega) (hintW l[i].nc)) rfl rfl rfl (.tail .app) (fun _ _ => trivial) (fun Lx' htx' => ?_)
                    have htx' : TW 175 70 bt r (dropA ax (hintW l[i].nc)) Lx' := htx'
                    refine ga_branch (rs := [7]) (by kernel_rfl) rfl (.cons (ls' := [true, true, true, true, true, true, true, true, false, false, false]) rfl rfl ?_ .nil)
                    refine gs_val (val_loadA kag30 rfl (sees_mem (by repeat (first | exact .head _ | refine .tail _ ?_ | refine List.mem_append_right _ ?_))) rfl rfl) rfl rfl rfl ?_
                    refine gx_env (F := [(1, _), (2, _), (7, _), (9, _), (11, _), (12, _), (58, _), (59, _), (60, _), (61, _), (64, _), (65, _), (66, _), (67, _), (68, _), (69, _), (70, _), (71, _), (72, _), (73, _), (74, _), (75, _), (76, _), (77, _)]) (.cons rfl (.cons rfl (.cons rfl (.cons rfl (.cons rfl (.cons rfl (.cons rfl (.cons rfl (.cons rfl (.cons rfl (.cons rfl (.cons rfl (.cons rfl (.cons rfl (.cons rfl (.cons rfl (.cons rfl (.cons rfl (.cons rfl (.cons rfl (.cons rfl (.cons rfl (.cons rfl (.cons rfl .nil)))))))))))))))))))))))) (gx_perm (by first | exact .refl _ | (repeat (first | exact .refl _ | refine perm_take (by first | exact .head | exact .tail .head | exact .tail (.tail .head) | exact .tail (.tail (.tail .head)) | exact .tail (.tail (.tail (.tail .head))) | exact .tail (.tail (.tail (.tail (.tail .head))))) ?_ | refine perm_takeL (by repeat (first | exact .app | exact .here | apply TakeL.tail | apply TakeL.appr)) ?_ | refine perm_takeX (by repeat (first | exact .cons .head .nil | apply TakeL.tail | apply TakeL.appr)) ?_))) (hD0 Lx' (And.intro htx' True.intro)))
                  · skip
                    refine gs_val (val_loadA kag30 rfl (sees_mem (by repeat (first | exact .head _ | refine .tail _ ?_ | refine List.mem_append_right _ ?_))) rfl rfl) rfl rfl rfl ?_
                    refine gx_env (F := [(1, _), (2, _), (7, _), (9, _), (11, _), (12, _), (58, _), (59, _), (60, _), (61, _), (64, _), (65, _), (66, _), (67, _), (68, _), (69, _), (70, _), (71, _), (72, _), (73, _), (75, _), (76, _), (77, _)]) (.cons rfl (.cons rfl (.cons rfl (.cons rfl (.cons rfl (.cons rfl (.cons rfl (.cons rfl (.cons rfl (.cons rfl (.cons rfl (.cons rfl (.cons rfl (.cons rfl (.cons rfl (.cons rfl (.cons rfl (.cons rfl (.cons rfl (.cons rfl (.cons rfl (.cons rfl (.cons rfl .nil))))))))))))))))))))))) (gx_perm (by first | exact .refl _ | (repeat (first | exact .refl _ | refine perm_take (by first | exact .head | exact .tail .head | exact .tail (.tail .head) | exact .tail (.tail (.tail .head)) | exact .tail (.tail (.tail (.tail .head))) | exact .tail (.tail (.tail (.tail (.tail .head))))) ?_ | refine perm_takeL (by repeat (first | exact .app | exact .here | apply TakeL.tail | apply TakeL.appr)) ?_ | refine perm_takeX (by repeat (first | exact .cons .head .nil | apply TakeL.tail | apply TakeL.appr)) ?_))) (hD1  True.intro))
                · skip
                  refine gs_val (val_loadA kag30 rfl (sees_mem (by repeat (first | exact .head _ | refine .tail _ ?_ | refine List.mem_append_right _ ?_))) rfl rfl) rfl rfl rfl ?_
                  refine gx_env (F := [(1, _), (2, _), (7, _), (9, _), (11, _), (12, _), (58, _), (59, _), (60, _), (61, _), (64, _), (65, _), (66, _), (67, _), (68, _), (69, _), (70, _), (71, _), (72, _), (75, _), (76, _), (77, _)]) (.cons rfl (.cons rfl (.cons rfl (.cons rfl (.cons rfl (.cons rfl (.cons rfl (.cons rfl (.cons rfl (.cons rfl (.cons rfl (.cons rfl (.cons rfl (.cons rfl (.cons rfl (.cons rfl (.cons rfl (.cons rfl (.cons rfl (.cons rfl (.cons rfl (.cons rfl .nil)))))))))))))))))))))) (gx_perm (by first | exact .refl _ | (repeat (first | exact .refl _ | refine perm_take (by first | exact .head | exact .tail .head | exact .tail (.tail .head) | exact .tail (.tail (.tail .head)) | exact .tail (.tail (.tail (.tail .head))) | exact .tail (.tail (.tail (.tail (.tail .head))))) ?_ | refine perm_takeL (by repeat (first | exact .app | exact .here | apply TakeL.tail | apply TakeL.appr)) ?_ | refine perm_takeX (by repeat (first | exact .cons .head .nil | apply TakeL.tail | apply TakeL.appr)) ?_))) (hD2  True.intro))
              · skip
                refine gs_val (val_loadA kag30 rfl (sees_mem (by repeat (first | exact .head _ | refine .tail _ ?_ | refine List.mem_append_right _ ?_))) rfl rfl) rfl rfl rfl ?_
                refine ga_branch (rs := [2]) (by kernel_rfl) rfl (.cons (ls' := [true, true, true, false, false, true, true, true, false, false, false]) rfl rfl ?_ .nil)
                refine gs_val (val_loadA kag30 rfl (sees_mem (by repeat (first | exact .head _ | refine .tail _ ?_ | refine List.mem_append_right _ ?_))) rfl rfl) rfl rfl rfl ?_
                refine gx_env (F := [(1, _), (2, _), (7, _), (9, _), (11, _), (12, _), (58, _), (59, _), (60, _), (61, _), (64, _), (65, _), (66, _), (67, _), (68, _), (69, _), (70, _), (71, _), (72, _), (75, _), (76, _), (77, _)]) (.cons rfl (.cons rfl (.cons rfl (.cons rfl (.cons rfl (.cons rfl (.cons rfl (.cons rfl (.cons rfl (.cons rfl (.cons rfl (.cons rfl (.cons rfl (.cons rfl (.cons rfl (.cons rfl (.cons rfl (.cons rfl (.cons rfl (.cons rfl (.cons rfl (.cons rfl .nil)))))))))))))))))))))) (gx_perm (by first | exact .refl _ | (repeat (first | exact .refl _ | refine perm_take (by first | exact .head | exact .tail .head | exact .tail (.tail .head) | exact .tail (.tail (.tail .head)) | exact .tail (.tail (.tail (.tail .head))) | exact .tail (.tail (.tail (.tail (.tail .head))))) ?_ | refine perm_takeL (by repeat (first | exact .app | exact .here | apply TakeL.tail | apply TakeL.appr)) ?_ | refine perm_takeX (by repeat (first | exact .cons .head .nil | apply TakeL.tail | apply TakeL.appr)) ?_))) (hD2  True.intro))
            · rintro  _
              refine ga_branch (rs := [3]) (by kernel_rfl) rfl (.cons (ls' := [true, true, true, true, false, true, true, true, false, false, false]) rfl rfl ?_ .nil)
              refine gs_pure (enters kcall49 (.cons rfl .nil)) (hint_spec l[i].nc) rfl rfl rfl (fun _ _ => trivial) ?_
              refine gx_env (F := [(1, _), (2, _), (7, _), (9, _), (11, _), (12, _), (58, _), (59, _), (60, _), (61, _), (64, _), (65, _), (66, _), (67, _), (68, _), (69, _), (70, _), (71, _), (72, _), (73, _), (75, _), (76, _), (77, _)]) (.cons rfl (.cons rfl (.cons rfl (.cons rfl (.cons rfl (.cons rfl (.cons rfl (.cons rfl (.cons rfl (.cons rfl (.cons rfl (.cons rfl (.cons rfl (.cons rfl (.cons rfl (.cons rfl (.cons rfl (.cons rfl (.cons rfl (.cons rfl (.cons rfl (.cons rfl (.cons rfl .nil))))))))))))))))))))))) (gx_perm (by first | exact .refl _ | (repeat (first | exact .refl _ | refine perm_take (by first | exact .head | exact .tail .head | exact .tail (.tail .head) | exact .tail (.tail (.tail .head)) | exact .tail (.tail (.tail (.tail .head))) | exact .tail (.tail (.tail (.tail (.tail .head))))) ?_ | refine perm_takeL (by repeat (first | exact .app | exact .here | apply TakeL.tail | apply TakeL.appr)) ?_ | refine perm_takeX (by repeat (first | exact .cons .head .nil | apply TakeL.tail | apply TakeL.appr)) ?_))) (hD1  True.intro))
          · rintro  _
            refine ga_branch (rs := [4]) (by kernel_rfl) rfl (.cons (ls' := [true, true, true, true, true, true, true, true, false, false, false]) rfl rfl ?_ .nil)
            refine gs_turns (enters kcall42 (.cons rfl (.cons rfl .nil))) (dropT_spec bt r ax Lx htx hal.fx (by omega) (hintW l[i].nc)) rfl rfl rfl (.tail .app) (fun _ _ => trivial) (fun Lx' htx' => ?_)
            have htx' : TW 175 70 bt r (dropA ax (hintW l[i].nc)) Lx' := htx'
            refine gx_env (F := [(1, _), (2, _), (7, _), (9, _), (11, _), (12, _), (58, _), (59, _), (60, _), (61, _), (64, _), (65, _), (66, _), (67, _), (68, _), (69, _), (70, _), (71, _), (72, _), (73, _), (74, _), (75, _), (76, _), (77, _)]) (.cons rfl (.cons rfl (.cons rfl (.cons rfl (.cons rfl (.cons rfl (.cons rfl (.cons rfl (.cons rfl (.cons rfl (.cons rfl (.cons rfl (.cons rfl (.cons rfl (.cons rfl (.cons rfl (.cons rfl (.cons rfl (.cons rfl (.cons rfl (.cons rfl (.cons rfl (.cons rfl (.cons rfl .nil)))))))))))))))))))))))) (gx_perm (by first | exact .refl _ | (repeat (first | exact .refl _ | refine perm_take (by first | exact .head | exact .tail .head | exact .tail (.tail .head) | exact .tail (.tail (.tail .head)) | exact .tail (.tail (.tail (.tail .head))) | exact .tail (.tail (.tail (.tail (.tail .head))))) ?_ | refine perm_takeL (by repeat (first | exact .app | exact .here | apply TakeL.tail | apply TakeL.appr)) ?_ | refine perm_takeX (by repeat (first | exact .cons .head .nil | apply TakeL.tail | apply TakeL.appr)) ?_))) (hD0 Lx' (And.intro htx' True.intro)))
        · rintro Lx' ⟨htx', _⟩
          refine ga_branch (rs := [8]) (by kernel_rfl) rfl (.cons (ls' := [true, true, true, true, true, true, true, true, true, false, false]) rfl rfl ?_ .nil)
          refine gs_pure (enters kcall49 (.cons rfl .nil)) (hint_spec l[i].nc) rfl rfl rfl (fun _ _ => trivial) ?_
          refine ga_branch (rs := [9]) (by kernel_rfl) rfl (.cons (ls' := [true, true, true, true, true, true, true, true, true, true, false]) rfl rfl ?_ .nil)
          refine gs_turns (enters kcall42 (.cons rfl (.cons rfl .nil))) (dropT_spec bu r ay Ly hty hal.fy (by omega) (hintW l[i].nc)) rfl rfl rfl (.appr (.tail .app)) (fun _ _ => trivial) (fun Ly' hty' => ?_)
          have hty' : TW 175 70 bu r (dropA ay (hintW l[i].nc)) Ly' := hty'
          refine ga_take (i := 10) (ls' := [true, true, true, true, true, true, true, true, true, true, true]) rfl (by kernel_rfl) rfl (fun _ _ _ => val_cast (v := .bool false) (val_neqB kun4 rfl rfl) (congrArg Value.bool (by rw [ixA_sk hal.eq]; exact bne_self_eq_false _))) rfl rfl rfl ?_
          refine ga_done (by kernel_rfl) ?_
          refine gk_seq ?_
          refine gc_false rfl ?_
          refine gc_skip ?_
          refine gk_seq ?_
          refine gc_exit ?_
          refine gk_seq_exit ?_
          refine gk_block_exit ?_
          refine gk_seq ?_
          refine gc_region ?_
          refine gl_cons (gs_val (val_move rfl) rfl rfl rfl ?_)
          refine gl_cons (gs_val (val_addI rfl rfl (by omega)) rfl rfl rfl ?_)
          refine gl_cons (gs_val (val_assign rfl) rfl rfl rfl ?_)
          refine gl_nil ?_
          refine gk_again (i + 1, dropA ax (hintW l[i].nc), dropA ay (hintW l[i].nc), Lx', Ly') ?_ ?_ ?_ ?_
          · exact ⟨by show i + 1 ≤ n; omega, htx', hty', al2_drop hal _⟩
          · show n - (i + 1) < n - i; omega
          · exact (.cons (rfl) (.cons (rfl) (.cons (rfl) (.cons (rfl) (.cons (rfl) .nil)))))
          · exact fun _ h => (h.perm (List.perm_append_comm_assoc Ly' Lx' _)).sub (List.Sublist.append_left (List.Sublist.append_left (.cons _ (List.Sublist.refl _)) Ly') Lx')
      · skip
        refine gc_region ?_
        refine gl_cons (gs_val (val_fieldAddr kfo96_0 rfl) rfl rfl rfl ?_)
        refine gl_cons (gs_val (val_cast (v := .bool false) (val_load1 kag4 rfl (sees_mem (by repeat (first | exact .head _ | refine .tail _ ?_ | refine List.mem_append_right _ ?_))) rfl) (congrArg Value.bool (Bool.eq_false_iff.2 hd))) rfl rfl rfl ?_)
        refine gl_nil ?_
        refine gk_seq ?_
        refine gc_false rfl ?_
        refine gc_skip ?_
        refine gk_seq ?_
        refine gc_seq ?_
        refine gc_region ?_
        refine gl_cons (gs_val (val_fieldAddr kfo96_4 rfl) rfl rfl rfl ?_)
        refine gl_cons (gs_val (val_load1 kag9 rfl (sees_mem (by repeat (first | exact .head _ | refine .tail _ ?_ | refine List.mem_append_right _ ?_))) rfl) rfl rfl rfl ?_)
        refine gl_cons (gs_val (val_lenStr kun9 rfl) rfl rfl rfl ?_)
        refine gl_cons (gs_make1 (ln := l[i].s.size) (cp := l[i].s.size) ksl54 kze5 rfl rfl rfl rfl rfl (by omega) rfl (by omega) rfl rfl (fun wb => ?_))
        refine gl_cons (gs_val (val_assign rfl) rfl rfl rfl ?_)
        refine gl_nil ?_
        refine gk_seq ?_
        refine gc_seq ?_
        refine gc_seq ?_
        refine gc_region ?_
        refine gl_cons (gs_val (val_assign rfl) rfl rfl rfl ?_)
        refine gl_nil ?_
        refine gk_seq ?_
        refine gc_block ?_
        refine gc_loop (σ := Nat × List UInt8) (I := fun v => v.1 ≤ l[i].s.size ∧ v.2.length = l[i].s.size) (μ := fun v => l[i].s.size - v.1) (EI := fun v => [(14, I64 (v.1 : Int)), (1, .slice ba n cap), (2, .slice bo no co), (7, .pointer (some ⟨bt, 0, none⟩)), (9, .pointer (some ⟨bu, 0, none⟩)), (11, I64 (i : Int)), (12, .pointer (some ⟨dx, 0, none⟩)), (13, .slice (some ⟨wb, 0, none⟩) l[i].s.size l[i].s.size), (58, I64 (i : Int)), (59, .slice ba n cap), (60, I64 (n : Int)), (64, .slice ba n cap), (65, I64 (i : Int)), (66, .pointer (some ⟨ab, ao + i * 12, none⟩)), (68, .pointer (some ⟨dx, 0, none⟩)), (81, .pointer (some ⟨dx, 11, none⟩)), (84, .slice (some ⟨wb, 0, none⟩) l[i].s.size l[i].s.size)]) (LI := fun v => ⟨wb, .cells (v.2.map U8).toArray 5 (0, 0)⟩ :: ⟨dx, .cells l[i].L.toArray 96 (0, 0)⟩ :: (Lx ++ (Ly ++ []))) (0, List.replicate l[i].s.size 0) ?_ ?_ ?_ ?_
        · exact ⟨Nat.zero_le _, List.length_replicate⟩
        · exact (.cons rfl (.cons rfl (.cons rfl (.cons rfl (.cons rfl (.cons rfl (.cons rfl (.cons rfl (.cons rfl (.cons rfl (.cons rfl (.cons rfl (.cons rfl (.cons rfl (.cons rfl (.cons rfl (.cons rfl .nil)))))))))))))))))
        · exact fun _ h => by rw [List.map_replicate]; exact h
        · intro ⟨j, w⟩ ⟨hjs, hwl⟩
          dsimp only
          have hjs : j ≤ l[i].s.size := hjs
          have hwl : w.length = l[i].s.size := hwl
          refine gc_seq ?_
          refine gc_seq ?_
          refine gc_region ?_
          refine gl_cons (gs_val (val_move rfl) rfl rfl rfl ?_)
          refine gl_cons (gs_val (val_move rfl) rfl rfl rfl ?_)
          refine gl_cons (gs_val (val_lenSli ksl54 rfl) rfl rfl rfl ?_)
          refine gl_cons (gs_val (val_lss rfl rfl) rfl rfl rfl ?_)
          refine gl_nil ?_
          refine gk_seq ?_
          refine gc_if rfl (fun hj2 => ?_) (fun hj2 => ?_)
          · have hjl : j < l[i].s.size := by omega
            have hmo : ((i + j) % no) < o.length := by rw [ho]; exact Nat.mod_lt _ hno
            refine gc_skip ?_
            refine gk_seq ?_
            refine gc_seq ?_
            refine gc_block ?_
            refine gc_region ?_
            refine gl_cons (gs_val (val_move rfl) rfl rfl rfl ?_)
            refine gl_cons (gs_val (val_move rfl) rfl rfl rfl ?_)
            refine gl_cons (gs_val (val_move rfl) rfl rfl rfl ?_)
            refine gl_cons (gs_val (val_move rfl) rfl rfl rfl ?_)
            refine gl_cons (gs_val (val_move rfl) rfl rfl rfl ?_)
            refine gl_cons (gs_val (val_addI rfl rfl (by omega)) rfl rfl rfl ?_)
            refine gl_cons (gs_val (val_move rfl) rfl rfl rfl ?_)
            refine gl_cons (gs_val (val_lenSli ksl54 rfl) rfl rfl rfl ?_)
            refine gl_cons (gs_val (val_cast (v := I64 ((((i + j) % no) : Nat) : Int)) (val_remI rfl rfl (by omega)) rfl) rfl rfl rfl ?_)
            refine gl_cons (gs_val (val_indexSli (m := ((i + j) % no)) ksl54 rfl rfl rfl (Nat.mod_lt _ hno) (sees_row hpo) (by rw [List.length_map]; omega)) rfl rfl rfl ?_)
            refine gl_cons (gs_val (val_load1 kag5 rfl ((sees_row hpo).elem (m := ((i + j) % no)) hmo) rfl) rfl rfl rfl ?_)
            refine gl_cons (gs_val (val_cast (v := .pointer (some ⟨wb, 0 + j * 1, none⟩)) (val_indexSli (m := j) ksl54 rfl rfl rfl hjl (sees_all (by repeat (first | exact .head _ | refine .tail _ ?_ | refine List.mem_append_right _ ?_))) (by rw [List.length_map]; omega)) (idx_eq rfl)) rfl rfl rfl ?_)
            refine gl_cons (gs_store ksz5 rfl rfl rfl rfl rfl rfl (by first | exact .head | exact .tail .head | exact .tail (.tail .head) | exact .tail (.tail (.tail .head)) | exact .tail (.tail (.tail (.tail .head))) | exact .tail (.tail (.tail (.tail (.tail .head))))) (by rw [List.length_map]; show 0 + j * 1 + 1 ≤ _; omega) (set_sp w j _ (by omega)) ?_)
            refine gl_nil ?_
            refine gk_block ?_
            refine gk_seq ?_
            refine gc_region ?_
            refine gl_cons (gs_val (val_move rfl) rfl rfl rfl ?_)
            refine gl_cons (gs_val (val_addI rfl rfl (by omega)) rfl rfl rfl ?_)
            refine gl_cons (gs_val (val_assign rfl) rfl rfl rfl ?_)
            refine gl_nil ?_
            refine gk_again (j + 1, w.set j (o[((i + j) % no)]'hmo)) ?_ ?_ ?_ ?_
            · exact ⟨by show j + 1 ≤ _; omega, by show (w.set j _).length = _; rw [List.length_set]; exact hwl⟩
            · show _ - (j + 1) < _ - j; omega
            · exact (.cons (rfl) (.cons (rfl) (.cons (rfl) (.cons (rfl) (.cons (rfl) (.cons (rfl) (.cons (rfl) (.cons (rfl) (.cons (rfl) (.cons (rfl) (.cons (rfl) (.cons (rfl) (.cons (rfl) (.cons (rfl) (.cons (rfl) (.cons (rfl) (.cons (rfl) .nil)))))))))))))))))
            · exact fun _ h => h
          · have hsk : sk (mdA l[i]) = sk (mdA (⟨l[i].dr, l[i].rw, l[i].nc, l[i].nb, ⟨w.toArray⟩⟩ : De)) := md_len hwl
            refine gc_exit ?_
            refine gk_seq_exit ?_
            refine gk_loop_exit ?_
            refine gk_block_exit ?_
            refine gk_seq ?_
            refine gc_seq ?_
            refine gc_region ?_
            refine gl_cons (gs_val (val_loadA (ds := l[i].L) kag96 rfl (sees_mem (by repeat (first | exact .head _ | refine .tail _ ?_ | refine List.mem_append_right _ ?_))) rfl rfl) rfl rfl rfl ?_)
            refine gl_cons (gs_alloc kze96 rfl rfl rfl (fun el => ?_))
            refine gl_cons (gs_store ksz96 rfl rfl rfl rfl rfl rfl (by first | exact .head | exact .tail .head | exact .tail (.tail .head) | exact .tail (.tail (.tail .head)) | exact .tail (.tail (.tail (.tail .head))) | exact .tail (.tail (.tail (.tail (.tail .head))))) (by simp) (by first | ((with_reducible refine splice_all _ _ ?_); simp; done) | (simp only [splice, stL, digL, List.take_succ_cons, List.take_zero, List.drop_succ_cons, List.drop_zero, List.length_cons, List.length_nil, Nat.reduceAdd, Nat.reduceMul, Nat.zero_add, Nat.zero_mul, List.cons_append, List.nil_append]; exact rfl)) ?_)
            refine gl_nil ?_
            refine gk_seq ?_
            refine gc_seq ?_
            refine gc_region ?_
            refine gl_cons (gs_val (val_move rfl) rfl rfl rfl ?_)
            refine gl_cons (gs_val (val_bytesStr (l := w) kun54 kun5 kun9 rfl hwl (sees_all (by repeat (first | exact .head _ | refine .tail _ ?_ | refine List.mem_append_right _ ?_)))) rfl rfl rfl ?_)
            refine gl_cons (gs_val (val_fieldAddr kfo96_4 rfl) rfl rfl rfl ?_)
            refine gl_cons (gs_store ksz9 rfl rfl rfl rfl rfl rfl (by first | exact .head | exact .tail .head | exact .tail (.tail .head) | exact .tail (.tail (.tail .head)) | exact .tail (.tail (.tail (.tail .head))) | exact .tail (.tail (.tail (.tail (.tail .head))))) (by simp) (show splice l[i].L (0 + 11) [.string ⟨w.toArray⟩] = (⟨l[i].dr, l[i].rw, l[i].nc, l[i].nb, ⟨w.toArray⟩⟩ : De).L from rfl) ?_)
            refine gl_nil ?_
            refine gk_seq ?_
            refine gc_seq ?_
            refine gc_seq ?_
            refine ga_start (m := 18) (ls := [false, false, false, false, false, false, false, false, false, false, false, false, false, false, false, false, false, false]) kmixed rfl rfl ?_
            apply share5 (α := Nat) (β := Nat) (γ := List Value) (δ := Nat × Nat) (ε := List Ent) (m' := 11) (ls' := [true, true, true, true, true, true, true, false, false, false, false, false, false, false, false, false, false, false])
            · intro hD0
              apply share4 (α := Nat) (β := Nat) (γ := List Value) (δ := Nat × Nat) (m' := 12) (ls' := [true, true, true, true, false, true, true, false, false, false, false, false, false, false, false, false, false, false])
              · intro hD1
                apply share0  (m' := 13) (ls' := [true, true, true, false, false, true, true, false, false, false, false, false, false, false, false, false, false, false])
                · intro hD2
                  apply share0  (m' := 14) (ls' := [true, true, false, false, false, true, true, false, false, false, false, false, false, false, false, false, false, false])
                  · intro hD3
                    refine ga_take (i := 0) (ls' := [true, false, false, false, false, false, false, false, false, false, false, false, false, false, false, false, false, false]) rfl (by kernel_rfl) rfl (fun _ _ _ => val_move rfl) rfl rfl rfl ?_
                    refine ga_take (i := 5) (ls' := [true, false, false, false, false, true, false, false, false, false, false, false, false, false, false, false, false, false]) rfl (by kernel_rfl) rfl (fun _ _ _ => val_move rfl) rfl rfl rfl ?_
                    refine ga_branch (rs := [1, 6]) (by kernel_rfl) rfl (.cons (ls' := [true, true, false, false, false, true, false, false, false, false, false, false, false, false, false, false, false, false]) rfl rfl ?_ (.cons (ls' := [true, false, false, false, false, true, true, false, false, false, false, false, false, false, false, false, false, false]) rfl rfl ?_ .nil))
                    · skip
                      refine gs_val (val_loadA (ds := l[i].L) kag96 rfl (sees_mem (by repeat (first | exact .head _ | refine .tail _ ?_ | refine List.mem_append_right _ ?_))) rfl rfl) rfl rfl rfl ?_
                      refine ga_branch (rs := [2, 6]) (by kernel_rfl) rfl (.cons (ls' := [true, true, true, false, false, true, false, false, false, false, false, false, false, false, false, false, false, false]) rfl rfl ?_ (.cons (ls' := [true, true, false, false, false, true, true, false, false, false, false, false, false, false, false, false, false, false]) rfl rfl ?_ .nil))
                      · skip
                        refine gs_pure (enters kcall53 (.cons rfl .nil)) (made_spec l[i]) rfl rfl rfl (fun _ _ => trivial) ?_
                        refine ga_branch (rs := [3, 6]) (by kernel_rfl) rfl (.cons (ls' := [true, true, true, true, false, true, false, false, false, false, false, false, false, false, false, false, false, false]) rfl rfl ?_ (.cons (ls' := [true, true, true, false, false, true, true, false, false, false, false, false, false, false, false, false, false, false]) rfl rfl ?_ .nil))
                        · skip
                          refine gs_makes (enters kcall52 (.cons rfl .nil)) (ownA_spec (hintW l[i].nc) l[i].nb ⟨(mdB l[i]).toArray⟩) rfl rfl rfl (fun _ _ => trivial) (fun ⟨oa, oac, oaj, oaz⟩ _ => ?_)
                          refine ga_branch (rs := [4, 6]) (by kernel_rfl) rfl (.cons (ls' := [true, true, true, true, true, true, false, false, false, false, false, false, false, false, false, false, false, false]) rfl rfl ?_ (.cons (ls' := [true, true, true, true, false, true, true, false, false, false, false, false, false, false, false, false, false, false]) rfl rfl ?_ .nil))
                          · skip
                            refine gs_turns (enters kcall41 (.cons rfl (.cons rfl .nil))) (takeT_spec bt r ax Lx htx hal.fx (by omega) (hintW l[i].nc) l[i].nb (some ⟨oa, 0, none⟩) (ByteArray.mk (mdB l[i]).toArray).size oac (mdB l[i]) (size_mk _).symm) rfl rfl rfl (.appr (.tail (.tail (.tail .app)))) (row_of_entL (cs := (mdB l[i]).map U8) (junk := oaj) (.appr (.tail (.tail (.tail .app)))) (.head _)) (fun Lx' htx' => ?_)
                            have htx' : TW 175 70 bt r (takeA r ax (mdA l[i])) Lx' := htx'
                            refine ga_branch (rs := [6]) (by kernel_rfl) rfl (.cons (ls' := [true, true, true, true, true, true, true, false, false, false, false, false, false, false, false, false, false, false]) rfl rfl ?_ .nil)
                            refine gs_val (val_loadA (ds := (⟨l[i].dr, l[i].rw, l[i].nc, l[i].nb, ⟨w.toArray⟩⟩ : De).L) kag96 rfl (sees_mem (by repeat (first | exact .head _ | refine .tail _ ?_ | refine List.mem_append_right _ ?_))) rfl rfl) rfl rfl rfl ?_
                            refine gx_env (F := [(1, _), (2, _), (7, _), (9, _), (11, _), (12, _), (13, _), (14, _), (15, _), (58, _), (59, _), (60, _), (64, _), (65, _), (66, _), (68, _), (81, _), (84, _), (85, _), (86, _), (87, _), (88, _), (103, _), (104, _), (105, _), (106, _), (107, _), (108, _), (109, _), (110, _), (111, _), (112, _), (113, _)]) (.cons rfl (.cons rfl (.cons rfl (.cons rfl (.cons rfl (.cons rfl (.cons rfl (.cons rfl (.cons rfl (.cons rfl (.cons rfl (.cons rfl (.cons rfl (.cons rfl (.cons rfl (.cons rfl (.cons rfl (.cons rfl (.cons rfl (.cons rfl (.cons rfl (.cons rfl (.cons rfl (.cons rfl (.cons rfl (.cons rfl (.cons rfl (.cons rfl (.cons rfl (.cons rfl (.cons rfl (.cons rfl (.cons rfl .nil))))))))))))))))))))))))))))))))) (gx_perm (by first | exact .refl _ | (repeat (first | exact .refl _ | refine perm_take (by first | exact .head | exact .tail .head | exact .tail (.tail .head) | exact .tail (.tail (.tail .head)) | exact .tail (.tail (.tail (.tail .head))) | exact .tail (.tail (.tail (.tail (.tail .head))))) ?_ | refine perm_takeL (by repeat (first | exact .app | exact .here | apply TakeL.tail | apply TakeL.appr)) ?_ | refine perm_takeX (by repeat (first | exact .cons .head .nil | apply TakeL.tail | apply TakeL.appr)) ?_))) (hD0 oa oac oaj oaz Lx' (And.intro htx' True.intro)))
                          · skip
                            refine gs_val (val_loadA (ds := (⟨l[i].dr, l[i].rw, l[i].nc, l[i].nb, ⟨w.toArray⟩⟩ : De).L) kag96 rfl (sees_mem (by repeat (first | exact .head _ | refine .tail _ ?_ | refine List.mem_append_right _ ?_))) rfl rfl) rfl rfl rfl ?_
                            refine gx_env (F := [(1, _), (2, _), (7, _), (9, _), (11, _), (12, _), (13, _), (14, _), (15, _), (58, _), (59, _), (60, _), (64, _), (65, _), (66, _), (68, _), (81, _), (84, _), (85, _), (86, _), (87, _), (88, _), (103, _), (104, _), (105, _), (106, _), (107, _), (108, _), (109, _), (110, _), (112, _), (113, _)]) (.cons rfl (.cons rfl (.cons rfl (.cons rfl (.cons rfl (.cons rfl (.cons rfl (.cons rfl (.cons rfl (.cons rfl (.cons rfl (.cons rfl (.cons rfl (.cons rfl (.cons rfl (.cons rfl (.cons rfl (.cons rfl (.cons rfl (.cons rfl (.cons rfl (.cons rfl (.cons rfl (.cons rfl (.cons rfl (.cons rfl (.cons rfl (.cons rfl (.cons rfl (.cons rfl (.cons rfl (.cons rfl .nil)))))))))))))))))))))))))))))))) (gx_perm (by first | exact .refl _ | (repeat (first | exact .refl _ | refine perm_take (by first | exact .head | exact .tail .head | exact .tail (.tail .head) | exact .tail (.tail (.tail .head)) | exact .tail (.tail (.tail (.tail .head))) | exact .tail (.tail (.tail (.tail (.tail .head))))) ?_ | refine perm_takeL (by repeat (first | exact .app | exact .here | apply TakeL.tail | apply TakeL.appr)) ?_ | refine perm_takeX (by repeat (first | exact .cons .head .nil | apply TakeL.tail | apply TakeL.appr)) ?_))) (hD1 oa oac oaj oaz True.intro))
                        · skip
                          refine gs_val (val_loadA (ds := (⟨l[i].dr, l[i].rw, l[i].nc, l[i].nb, ⟨w.toArray⟩⟩ : De).L) kag96 rfl (sees_mem (by repeat (first | exact .head _ | refine .tail _ ?_ | refine List.mem_append_right _ ?_))) rfl rfl) rfl rfl rfl ?_
                          refine gx_env (F := [(1, _), (2, _), (7, _), (9, _), (11, _), (12, _), (13, _), (14, _), (15, _), (58, _), (59, _), (60, _), (64, _), (65, _), (66, _), (68, _), (81, _), (84, _), (85, _), (86, _), (87, _), (88, _), (103, _), (104, _), (105, _), (106, _), (107, _), (108, _), (109, _), (112, _), (113, _)]) (.cons rfl (.cons rfl (.cons rfl (.cons rfl (.cons rfl (.cons rfl (.cons rfl (.cons rfl (.cons rfl (.cons rfl (.cons rfl (.cons rfl (.cons rfl (.cons rfl (.cons rfl (.cons rfl (.cons rfl (.cons rfl (.cons rfl (.cons rfl (.cons rfl (.cons rfl (.cons rfl (.cons rfl (.cons rfl (.cons rfl (.cons rfl (.cons rfl (.cons rfl (.cons rfl (.cons rfl .nil))))))))))))))))))))))))))))))) (gx_perm (by first | exact .refl _ | (repeat (first | exact .refl _ | refine perm_take (by first | exact .head | exact .tail .head | exact .tail (.tail .head) | exact .tail (.tail (.tail .head)) | exact .tail (.tail (.tail (.tail .head))) | exact .tail (.tail (.tail (.tail (.tail .head))))) ?_ | refine perm_takeL (by repeat (first | exact .app | exact .here | apply TakeL.tail | apply TakeL.appr)) ?_ | refine perm_takeX (by repeat (first | exact .cons .head .nil | apply TakeL.tail | apply TakeL.appr)) ?_))) (hD2  True.intro))
                      · skip
                        refine gs_val (val_loadA (ds := (⟨l[i].dr, l[i].rw, l[i].nc, l[i].nb, ⟨w.toArray⟩⟩ : De).L) kag96 rfl (sees_mem (by repeat (first | exact .head _ | refine .tail _ ?_ | refine List.mem_append_right _ ?_))) rfl rfl) rfl rfl rfl ?_
                        refine gx_env (F := [(1, _), (2, _), (7, _), (9, _), (11, _), (12, _), (13, _), (14, _), (15, _), (58, _), (59, _), (60, _), (64, _), (65, _), (66, _), (68, _), (81, _), (84, _), (85, _), (86, _), (87, _), (88, _), (103, _), (104, _), (105, _), (106, _), (107, _), (108, _), (112, _), (113, _)]) (.cons rfl (.cons rfl (.cons rfl (.cons rfl (.cons rfl (.cons rfl (.cons rfl (.cons rfl (.cons rfl (.cons rfl (.cons rfl (.cons rfl (.cons rfl (.cons rfl (.cons rfl (.cons rfl (.cons rfl (.cons rfl (.cons rfl (.cons rfl (.cons rfl (.cons rfl (.cons rfl (.cons rfl (.cons rfl (.cons rfl (.cons rfl (.cons rfl (.cons rfl (.cons rfl .nil)))))))))))))))))))))))))))))) (gx_perm (by first | exact .refl _ | (repeat (first | exact .refl _ | refine perm_take (by first | exact .head | exact .tail .head | exact .tail (.tail .head) | exact .tail (.tail (.tail .head)) | exact .tail (.tail (.tail (.tail .head))) | exact .tail (.tail (.tail (.tail (.tail .head))))) ?_ | refine perm_takeL (by repeat (first | exact .app | exact .here | apply TakeL.tail | apply TakeL.appr)) ?_ | refine perm_takeX (by repeat (first | exact .cons .head .nil | apply TakeL.tail | apply TakeL.appr)) ?_))) (hD3  True.intro))
                    · skip
                      refine gs_val (val_loadA (ds := (⟨l[i].dr, l[i].rw, l[i].nc, l[i].nb, ⟨w.toArray⟩⟩ : De).L) kag96 rfl (sees_mem (by repeat (first | exact .head _ | refine .tail _ ?_ | refine List.mem_append_right _ ?_))) rfl rfl) rfl rfl rfl ?_
                      refine ga_branch (rs := [1]) (by kernel_rfl) rfl (.cons (ls' := [true, true, false, false, false, true, true, false, false, false, false, false, false, false, false, false, false, false]) rfl rfl ?_ .nil)
                      refine gs_val (val_loadA (ds := l[i].L) kag96 rfl (sees_mem (by repeat (first | exact .head _ | refine .tail _ ?_ | refine List.mem_append_right _ ?_))) rfl rfl) rfl rfl rfl ?_
                      refine gx_env (F := [(1, _), (2, _), (7, _), (9, _), (11, _), (12, _), (13, _), (14, _), (15, _), (58, _), (59, _), (60, _), (64, _), (65, _), (66, _), (68, _), (81, _), (84, _), (85, _), (86, _), (87, _), (88, _), (103, _), (104, _), (105, _), (106, _), (107, _), (108, _), (112, _), (113, _)]) (.cons rfl (.cons rfl (.cons rfl (.cons rfl (.cons rfl (.cons rfl (.cons rfl (.cons rfl (.cons rfl (.cons rfl (.cons rfl (.cons rfl (.cons rfl (.cons rfl (.cons rfl (.cons rfl (.cons rfl (.cons rfl (.cons rfl (.cons rfl (.cons rfl (.cons rfl (.cons rfl (.cons rfl (.cons rfl (.cons rfl (.cons rfl (.cons rfl (.cons rfl (.cons rfl .nil)))))))))))))))))))))))))))))) (gx_perm (by first | exact .refl _ | (repeat (first | exact .refl _ | refine perm_take (by first | exact .head | exact .tail .head | exact .tail (.tail .head) | exact .tail (.tail (.tail .head)) | exact .tail (.tail (.tail (.tail .head))) | exact .tail (.tail (.tail (.tail (.tail .head))))) ?_ | refine perm_takeL (by repeat (first | exact .app | exact .here | apply TakeL.tail | apply TakeL.appr)) ?_ | refine perm_takeX (by repeat (first | exact .cons .head .nil | apply TakeL.tail | apply TakeL.appr)) ?_))) (hD3  True.intro))
                  · rintro  _
                    refine ga_branch (rs := [2]) (by kernel_rfl) rfl (.cons (ls' := [true, true, true, false, false, true, true, false, false, false, false, false, false, false, false, false, false, false]) rfl rfl ?_ .nil)
                    refine gs_pure (enters kcall53 (.cons rfl .nil)) (made_spec l[i]) rfl rfl rfl (fun _ _ => trivial) ?_
                    refine gx_env (F := [(1, _), (2, _), (7, _), (9, _), (11, _), (12, _), (13, _), (14, _), (15, _), (58, _), (59, _), (60, _), (64, _), (65, _), (66, _), (68, _), (81, _), (84, _), (85, _), (86, _), (87, _), (88, _), (103, _), (104, _), (105, _), (106, _), (107, _), (108, _), (109, _), (112, _), (113, _)]) (.cons rfl (.cons rfl (.cons rfl (.cons rfl (.cons rfl (.cons rfl (.cons rfl (.cons rfl (.cons rfl (.cons rfl (.cons rfl (.cons rfl (.cons rfl (.cons rfl (.cons rfl (.cons rfl (.cons rfl (.cons rfl (.cons rfl (.cons rfl (.cons rfl (.cons rfl (.cons rfl (.cons rfl (.cons rfl (.cons rfl (.cons rfl (.cons rfl (.cons rfl (.cons rfl (.cons rfl .nil))))))))))))))))))))))))))))))) (gx_perm (by first | exact .refl _ | (repeat (first | exact .refl _ | refine perm_take (by first | exact .head | exact .tail .head | exact .tail (.tail .head) | exact .tail (.tail (.tail .head)) | exact .tail (.tail (.tail (.tail .head))) | exact .tail (.tail (.tail (.tail (.tail .head))))) ?_ | refine perm_takeL (by repeat (first | exact .app | exact .here | apply TakeL.tail | apply TakeL.appr)) ?_ | refine perm_takeX (by repeat (first | exact .cons .head .nil | apply TakeL.tail | apply TakeL.appr)) ?_))) (hD2  True.intro))
                · rintro  _
                  refine ga_branch (rs := [3]) (by kernel_rfl) rfl (.cons (ls' := [true, true, true, true, false, true, true, false, false, false, false, false, false, false, false, false, false, false]) rfl rfl ?_ .nil)
                  refine gs_makes (enters kcall52 (.cons rfl .nil)) (ownA_spec (hintW l[i].nc) l[i].nb ⟨(mdB l[i]).toArray⟩) rfl rfl rfl (fun _ _ => trivial) (fun ⟨oa, oac, oaj, oaz⟩ _ => ?_)
                  refine gx_env (F := [(1, _), (2, _), (7, _), (9, _), (11, _), (12, _), (13, _), (14, _), (15, _), (58, _), (59, _), (60, _), (64, _), (65, _), (66, _), (68, _), (81, _), (84, _), (85, _), (86, _), (87, _), (88, _), (103, _), (104, _), (105, _), (106, _), (107, _), (108, _), (109, _), (110, _), (112, _), (113, _)]) (.cons rfl (.cons rfl (.cons rfl (.cons rfl (.cons rfl (.cons rfl (.cons rfl (.cons rfl (.cons rfl (.cons rfl (.cons rfl (.cons rfl (.cons rfl (.cons rfl (.cons rfl (.cons rfl (.cons rfl (.cons rfl (.cons rfl (.cons rfl (.cons rfl (.cons rfl (.cons rfl (.cons rfl (.cons rfl (.cons rfl (.cons rfl (.cons rfl (.cons rfl (.cons rfl (.cons rfl (.cons rfl .nil)))))))))))))))))))))))))))))))) (gx_perm (by first | exact .refl _ | (repeat (first | exact .refl _ | refine perm_take (by first | exact .head | exact .tail .head | exact .tail (.tail .head) | exact .tail (.tail (.tail .head)) | exact .tail (.tail (.tail (.tail .head))) | exact .tail (.tail (.tail (.tail (.tail .head))))) ?_ | refine perm_takeL (by repeat (first | exact .app | exact .here | apply TakeL.tail | apply TakeL.appr)) ?_ | refine perm_takeX (by repeat (first | exact .cons .head .nil | apply TakeL.tail | apply TakeL.appr)) ?_))) (hD1 oa oac oaj oaz True.intro))
              · rintro oa oac oaj oaz _
                refine ga_branch (rs := [4]) (by kernel_rfl) rfl (.cons (ls' := [true, true, true, true, true, true, true, false, false, false, false, false, false, false, false, false, false, false]) rfl rfl ?_ .nil)
                refine gs_turns (enters kcall41 (.cons rfl (.cons rfl .nil))) (takeT_spec bt r ax Lx htx hal.fx (by omega) (hintW l[i].nc) l[i].nb (some ⟨oa, 0, none⟩) (ByteArray.mk (mdB l[i]).toArray).size oac (mdB l[i]) (size_mk _).symm) rfl rfl rfl (.appr (.tail (.tail (.tail .app)))) (row_of_entL (cs := (mdB l[i]).map U8) (junk := oaj) (.appr (.tail (.tail (.tail .app)))) (.head _)) (fun Lx' htx' => ?_)
                have htx' : TW 175 70 bt r (takeA r ax (mdA l[i])) Lx' := htx'
                refine gx_env (F := [(1, _), (2, _), (7, _), (9, _), (11, _), (12, _), (13, _), (14, _), (15, _), (58, _), (59, _), (60, _), (64, _), (65, _), (66, _), (68, _), (81, _), (84, _), (85, _), (86, _), (87, _), (88, _), (103, _), (104, _), (105, _), (106, _), (107, _), (108, _), (109, _), (110, _), (111, _), (112, _), (113, _)]) (.cons rfl (.cons rfl (.cons rfl (.cons rfl (.cons rfl (.cons rfl (.cons rfl (.cons rfl (.cons rfl (.cons rfl (.cons rfl (.cons rfl (.cons rfl (.cons rfl (.cons rfl (.cons rfl (.cons rfl (.cons rfl (.cons rfl (.cons rfl (.cons rfl (.cons rfl (.cons rfl (.cons rfl (.cons rfl (.cons rfl (.cons rfl (.cons rfl (.cons rfl (.cons rfl (.cons rfl (.cons rfl (.cons rfl .nil))))))))))))))))))))))))))))))))) (gx_perm (by first | exact .refl _ | (repeat (first | exact .refl _ | refine perm_take (by first | exact .head | exact .tail .head | exact .tail (.tail .head) | exact .tail (.tail (.tail .head)) | exact .tail (.tail (.tail (.tail .head))) | exact .tail (.tail (.tail (.tail (.tail .head))))) ?_ | refine perm_takeL (by repeat (first | exact .app | exact .here | apply TakeL.tail | apply TakeL.appr)) ?_ | refine perm_takeX (by repeat (first | exact .cons .head .nil | apply TakeL.tail | apply TakeL.appr)) ?_))) (hD0 oa oac oaj oaz Lx' (And.intro htx' True.intro)))
            · rintro oa oac oaj oaz Lx' ⟨htx', _⟩
              refine ga_branch (rs := [7]) (by kernel_rfl) rfl (.cons (ls' := [true, true, true, true, true, true, true, true, false, false, false, false, false, false, false, false, false, false]) rfl rfl ?_ .nil)
              refine gs_pure (enters kcall53 (.cons rfl .nil)) (made_spec (⟨l[i].dr, l[i].rw, l[i].nc, l[i].nb, ⟨w.toArray⟩⟩ : De)) rfl rfl rfl (fun _ _ => trivial) ?_
              refine ga_branch (rs := [8]) (by kernel_rfl) rfl (.cons (ls' := [true, true, true, true, true, true, true, true, true, false, false, false, false, false, false, false, false, false]) rfl rfl ?_ .nil)
              refine gs_makes (enters kcall52 (.cons rfl .nil)) (ownA_spec (hintW l[i].nc) l[i].nb ⟨(mdB (⟨l[i].dr, l[i].rw, l[i].nc, l[i].nb, ⟨w.toArray⟩⟩ : De)).toArray⟩) rfl rfl rfl (fun _ _ => trivial) (fun ⟨ob, obc, obj, obz⟩ _ => ?_)
              refine ga_branch (rs := [9]) (by kernel_rfl) rfl (.cons (ls' := [true, true, true, true, true, true, true, true, true, true, false, false, false, false, false, false, false, false]) rfl rfl ?_ .nil)
              refine gs_turns (enters kcall41 (.cons rfl (.cons rfl .nil))) (takeT_spec bu r ay Ly hty hal.fy (by omega) (hintW l[i].nc) l[i].nb (some ⟨ob, 0, none⟩) (ByteArray.mk (mdB (⟨l[i].dr, l[i].rw, l[i].nc, l[i].nb, ⟨w.toArray⟩⟩ : De)).toArray).size obc (mdB (⟨l[i].dr, l[i].rw, l[i].nc, l[i].nb, ⟨w.toArray⟩⟩ : De)) (size_mk _).symm) rfl rfl rfl (.appr (.appr (.appr (.tail (.tail (.tail .app)))))) (row_of_entL (cs := (mdB (⟨l[i].dr, l[i].rw, l[i].nc, l[i].nb, ⟨w.toArray⟩⟩ : De)).map U8) (junk := obj) (.appr (.appr (.appr (.tail (.tail (.tail .app)))))) (.head _)) (fun Ly' hty' => ?_)
              have hty' : TW 175 70 bu r (takeA r ay (mdA (⟨l[i].dr, l[i].rw, l[i].nc, l[i].nb, ⟨w.toArray⟩⟩ : De))) Ly' := hty'
              have hal' : Al2 r (takeA r ax (mdA l[i])) (takeA r ay (mdA (⟨l[i].dr, l[i].rw, l[i].nc, l[i].nb, ⟨w.toArray⟩⟩ : De))) := al2_take hal hsk
              refine ga_take (i := 10) (ls' := [true, true, true, true, true, true, true, true, true, true, true, false, false, false, false, false, false, false]) rfl (by kernel_rfl) rfl (fun _ _ _ => val_no (val_neq rfl rfl) (not_not_intro (take_sk hal.eq hsk).1)) rfl rfl rfl ?_
              refine ga_take (i := 11) (ls' := [true, true, true, true, true, true, true, true, true, true, true, true, false, false, false, false, false, false]) rfl (by kernel_rfl) rfl (fun _ _ _ => val_move rfl) rfl rfl rfl ?_
              refine ga_take (i := 12) (ls' := [true, true, true, true, true, true, true, true, true, true, true, true, true, false, false, false, false, false]) rfl (by kernel_rfl) rfl (fun _ _ _ => val_move rfl) rfl rfl rfl ?_
              refine ga_take (i := 14) (ls' := [true, true, true, true, true, true, true, true, true, true, true, true, true, false, true, false, false, false]) rfl (by kernel_rfl) rfl (fun _ _ _ => val_move rfl) rfl rfl rfl ?_
              refine ga_branch (rs := [13]) (by kernel_rfl) rfl (.cons (ls' := [true, true, true, true, true, true, true, true, true, true, true, true, true, true, true, false, false, false]) rfl rfl ?_ .nil)
              refine gs_turns (enters kcall44 (.cons rfl .nil)) (sizeT_spec bt r (takeA r ax (mdA l[i])) Lx' htx' hal'.fx (by omega)) rfl rfl rfl (.appr (.appr .app)) (fun _ _ => trivial) (fun _ _ => ?_)
              refine ga_branch (rs := [15]) (by kernel_rfl) rfl (.cons (ls' := [true, true, true, true, true, true, true, true, true, true, true, true, true, true, true, true, false, false]) rfl rfl ?_ .nil)
              refine gs_turns (enters kcall44 (.cons rfl .nil)) (sizeT_spec bu r (takeA r ay (mdA (⟨l[i].dr, l[i].rw, l[i].nc, l[i].nb, ⟨w.toArray⟩⟩ : De))) Ly' hty' hal'.fy (by omega)) rfl rfl rfl (.appr .app) (fun _ _ => trivial) (fun _ _ => ?_)
              refine ga_take (i := 16) (ls' := [true, true, true, true, true, true, true, true, true, true, true, true, true, true, true, true, true, false]) rfl (by kernel_rfl) rfl (fun _ _ _ => val_no (val_neq rfl rfl) (not_not_intro (congrArg (fun z : Nat => (z : Int)) (size_sk hal'.eq)))) rfl rfl rfl ?_
              refine ga_take (i := 17) (ls' := [true, true, true, true, true, true, true, true, true, true, true, true, true, true, true, true, true, true]) rfl (by kernel_rfl) rfl (fun _ _ _ => val_pick_f rfl rfl) rfl rfl rfl ?_
              refine ga_done (by kernel_rfl) ?_
              refine gk_seq ?_
              refine gc_false rfl ?_
              refine gc_skip ?_
              refine gk_seq ?_
              refine gc_seq ?_
              refine gc_region ?_
              obtain ⟨ax2, hax⟩ : ∃ z, (takeA r ax (mdA l[i])) = z := ⟨_, rfl⟩
              obtain ⟨ay2, hay⟩ : ∃ z, (takeA r ay (mdA (⟨l[i].dr, l[i].rw, l[i].nc, l[i].nb, ⟨w.toArray⟩⟩ : De))) = z := ⟨_, rfl⟩
              rw [hax] at htx' hal'
              rw [hay] at hty' hal'
              have hax8 := hal'.fx.len
              refine gl_cons (gs_val (val_move rfl) rfl rfl rfl ?_)
              refine gl_cons (gs_turns (enters kcall43 (.cons rfl .nil)) (hasT_spec bt r ax2 Lx' htx' hal'.fx (by omega)) rfl rfl rfl (.appr .app) (fun _ _ => trivial) (fun ⟨xb, xc, xN⟩ hxo => ?_))
              have hxo : Own 31 8 xb ax2.length xc ((ax2.map (·.1)).flatMap digL) xN := hxo
              refine gl_cons (gs_val (val_move rfl) rfl rfl rfl ?_)
              refine gl_cons (gs_turns (enters kcall43 (.cons rfl .nil)) (hasT_spec bu r ay2 Ly' hty' hal'.fy (by omega)) rfl rfl rfl (.appr .app) (fun _ _ => trivial) (fun ⟨yb, yc, yN⟩ hyo => ?_))
              have hyo : Own 31 8 yb ay2.length yc ((ay2.map (·.1)).flatMap digL) yN := hyo
              rw [← hint_sk hal'.eq] at hyo
              refine gl_cons (gs_val (val_assign rfl) rfl rfl rfl ?_)
              refine gl_cons (gs_val (val_assign rfl) rfl rfl rfl ?_)
              refine gl_nil ?_
              refine gk_seq ?_
              refine gc_seq ?_
              refine gc_seq ?_
              refine gc_region ?_
              refine gl_cons (gs_val (val_move rfl) rfl rfl rfl ?_)
              refine gl_cons (gs_val (val_lenSli ksl77 rfl) rfl rfl rfl ?_)
              refine gl_cons (gs_val (val_move rfl) rfl rfl rfl ?_)
              refine gl_cons (gs_val (val_lenSli ksl77 rfl) rfl rfl rfl ?_)
              refine gl_cons (gs_val (val_no (val_neq rfl rfl) (not_not_intro (congrArg (fun z : Nat => (z : Int)) (len_sk hal'.eq)))) rfl rfl rfl ?_)
              refine gl_nil ?_
              refine gk_seq ?_
              refine gc_false rfl ?_
              refine gc_skip ?_
              refine gk_seq ?_
              refine gc_seq ?_
              refine gc_region ?_
              refine gl_cons (gs_val (val_assign rfl) rfl rfl rfl ?_)
              refine gl_nil ?_
              refine gk_seq ?_
              refine gc_block ?_
              refine gc_loop (σ := Nat) (I := fun v => v ≤ ax2.length) (μ := fun v => ax2.length - v) (EI := fun v => [(16, .slice xb ax2.length xc), (17, .slice yb ay2.length yc), (18, I64 (v : Int)), (1, .slice ba n cap), (2, .slice bo no co), (7, .pointer (some ⟨bt, 0, none⟩)), (9, .pointer (some ⟨bu, 0, none⟩)), (11, I64 (i : Int)), (12, .pointer (some ⟨dx, 0, none⟩)), (13, .slice (some ⟨wb, 0, none⟩) l[i].s.size l[i].s.size), (15, .pointer (some ⟨el, 0, none⟩)), (58, I64 (i : Int)), (59, .slice ba n cap), (60, I64 (n : Int)), (64, .slice ba n cap), (65, I64 (i : Int)), (66, .pointer (some ⟨ab, ao + i * 12, none⟩)), (68, .pointer (some ⟨dx, 0, none⟩)), (81, .pointer (some ⟨dx, 11, none⟩)), (84, .slice (some ⟨wb, 0, none⟩) l[i].s.size l[i].s.size), (86, .slice (some ⟨wb, 0, none⟩) l[i].s.size l[i].s.size), (87, I64 (l[i].s.size : Int)), (104, .slice (some ⟨wb, 0, none⟩) l[i].s.size l[i].s.size), (106, .pointer (some ⟨el, 11, none⟩)), (107, .pointer (some ⟨bt, 0, none⟩)), (112, .pointer (some ⟨bu, 0, none⟩)), (117, .bool false), (118, .bool false), (119, .pointer (some ⟨bt, 0, none⟩)), (121, .pointer (some ⟨bu, 0, none⟩)), (123, .bool false), (124, .bool false), (125, .pointer (some ⟨bt, 0, none⟩)), (126, .slice xb ax2.length xc), (127, .pointer (some ⟨bu, 0, none⟩)), (128, .slice yb ay2.length yc), (129, .slice xb ax2.length xc), (130, I64 (ax2.length : Int)), (131, .slice yb ay2.length yc), (132, I64 (ay2.length : Int)), (133, .bool false)]) (LI := fun v => yN ++ (Ly' ++ (xN ++ Lx'))) 0 ?_ ?_ ?_ ?_
              · exact Nat.zero_le _
              · exact (.cons rfl (.cons rfl (.cons rfl (.cons rfl (.cons rfl (.cons rfl (.cons rfl (.cons rfl (.cons rfl (.cons rfl (.cons rfl (.cons rfl (.cons rfl (.cons rfl (.cons rfl (.cons rfl (.cons rfl (.cons rfl (.cons rfl (.cons rfl (.cons rfl (.cons rfl (.cons rfl (.cons rfl (.cons rfl (.cons rfl (.cons rfl (.cons rfl (.cons rfl (.cons rfl (.cons rfl (.cons rfl (.cons rfl (.cons rfl (.cons rfl (.cons rfl (.cons rfl (.cons rfl (.cons rfl (.cons rfl (.cons rfl .nil)))))))))))))))))))))))))))))))))))))))))
              · exact fun _ h => by have := h.sub (List.Sublist.append_left (List.sublist_append_left (xN ++ Lx') _) (yN ++ Ly')); rwa [List.append_assoc] at this
              · intro k hkn
                have hkn : k ≤ ax2.length := hkn
                refine gc_seq ?_
                refine gc_seq ?_
                refine gc_region ?_
                refine gl_cons (gs_val (val_move rfl) rfl rfl rfl ?_)
                refine gl_cons (gs_val (val_move rfl) rfl rfl rfl ?_)
                refine gl_cons (gs_val (val_lenSli ksl77 rfl) rfl rfl rfl ?_)
                refine gl_cons (gs_val (val_lss rfl rfl) rfl rfl rfl ?_)
                refine gl_nil ?_
                refine gk_seq ?_
                refine gc_if rfl (fun hj3 => ?_) (fun hj3 => ?_)
                · have hkl : k < ax2.length := by omega
                  have hky : k < ay2.length := by have := len_sk hal'.eq; omega
                  refine gc_skip ?_
                  refine gk_seq ?_
                  refine gc_seq ?_
                  refine gc_block ?_
                  refine gc_seq ?_
                  refine gc_drawAll kmixed (by kernel_rfl) ?_
                  refine gq_val (val_move rfl) rfl rfl rfl ?_
                  refine gq_val (val_move rfl) rfl rfl rfl ?_
                  refine gq_val (val_indexSli (m := k) ksl77 rfl rfl rfl hkl (hxo.look (.appr (.appr .app))) (by rw [dig_len, List.length_map]; omega)) rfl rfl rfl ?_
                  refine gq_val (val_loadA (ds := digL ((ax2.map (·.1))[k]'(by rw [List.length_map]; exact hkl))) kag31 rfl ((hxo.look (.appr (.appr .app))).elem8 (m := k) (by rw [List.length_map]; exact hkl)) rfl rfl) rfl rfl rfl ?_
                  refine gq_val (val_move rfl) rfl rfl rfl ?_
                  refine gq_val (val_move rfl) rfl rfl rfl ?_
                  refine gq_val (val_indexSli (m := k) ksl77 rfl rfl rfl hky (hyo.look .app) (by rw [dig_len, List.length_map]; omega)) rfl rfl rfl ?_
                  refine gq_val (val_loadA (ds := digL ((ax2.map (·.1))[k]'(by rw [List.length_map]; exact hkl))) kag31 rfl ((hyo.look .app).elem8 (m := k) (by rw [List.length_map]; exact hkl)) rfl rfl) rfl rfl rfl ?_
                  refine gq_val (val_no (val_neqDig kdig31 rfl rfl rfl rfl) (not_not_intro rfl)) rfl rfl rfl ?_
                  refine gq_nil ?_
                  refine gl_nil ?_
                  refine gk_seq ?_
                  refine gc_false rfl ?_
                  refine gc_skip ?_
                  refine gk_block ?_
                  refine gk_seq ?_
                  refine gc_region ?_
                  refine gl_cons (gs_val (val_move rfl) rfl rfl rfl ?_)
                  refine gl_cons (gs_val (val_addI rfl rfl (by omega)) rfl rfl rfl ?_)
                  refine gl_cons (gs_val (val_assign rfl) rfl rfl rfl ?_)
                  refine gl_nil ?_
                  refine gk_again (k + 1) ?_ ?_ ?_ ?_
                  · show k + 1 ≤ _; omega
                  · show _ - (k + 1) < _ - k; omega
                  · exact (.cons (rfl) (.cons (rfl) (.cons (rfl) (.cons (rfl) (.cons (rfl) (.cons (rfl) (.cons (rfl) (.cons (rfl) (.cons (rfl) (.cons (rfl) (.cons (rfl) (.cons (rfl) (.cons (rfl) (.cons (rfl) (.cons (rfl) (.cons (rfl) (.cons (rfl) (.cons (rfl) (.cons (rfl) (.cons (rfl) (.cons (rfl) (.cons (rfl) (.cons (rfl) (.cons (rfl) (.cons (rfl) (.cons (rfl) (.cons (rfl) (.cons (rfl) (.cons (rfl) (.cons (rfl) (.cons (rfl) (.cons (rfl) (.cons (rfl) (.cons (rfl) (.cons (rfl) (.cons (rfl) (.cons (rfl) (.cons (rfl) (.cons (rfl) (.cons (rfl) (.cons (rfl) .nil)))))))))))))))))))))))))))))))))))))))))
                  · exact fun _ h => h
                · skip
                  refine gc_exit ?_
                  refine gk_seq_exit ?_
                  refine gk_loop_exit ?_
                  refine gk_block_exit ?_
                  refine gk_block ?_
                  refine gk_seq ?_
                  refine gc_region ?_
                  refine gl_cons (gs_val (val_move rfl) rfl rfl rfl ?_)
                  refine gl_cons (gs_val (val_addI rfl rfl (by omega)) rfl rfl rfl ?_)
                  refine gl_cons (gs_val (val_assign rfl) rfl rfl rfl ?_)
                  refine gl_nil ?_
                  refine gk_again (i + 1, ax2, ay2, Lx', Ly') ?_ ?_ ?_ ?_
                  · exact ⟨by show i + 1 ≤ n; omega, htx', hty', hal'⟩
                  · show n - (i + 1) < n - i; omega
                  · exact (.cons (rfl) (.cons (rfl) (.cons (rfl) (.cons (rfl) (.cons (rfl) .nil)))))
                  · exact fun _ h => (h.sub ((List.Sublist.append_left (List.sublist_append_right xN Lx') Ly').trans (List.sublist_append_right yN _))).perm (by rw [List.append_nil]; exact List.perm_append_comm)
    · obtain rfl : n = i := by omega
      refine gc_exit ?_
      refine gk_seq_exit ?_
      refine gk_loop_exit ?_
      refine gk_block_exit ?_
      refine gk_seq ?_
      refine gc_seq ?_
      refine gc_region ?_
      refine gl_cons (gs_pure (enters kcall47 .nil) (told51_spec) rfl rfl rfl (fun _ _ => trivial) ?_)
      refine gl_cons (gs_val (val_assign rfl) rfl rfl rfl ?_)
      refine gl_nil ?_
      refine gk_seq ?_
      refine gc_ret ?_
      refine gk_ret rfl (resv_tmp rfl .nil) (List.nil_sublist _) ?_
      exact ⟨rfl, rfl⟩

theorem towerBlind_walk (rm : UInt8) (ba : Option Addr) (n cap : Nat) (l : List De) (hn : l.length = n) (hm : n ≤ 140737488351232) (bo : Option Addr) (no co : Nat) (o : List UInt8) (ho : o.length = no) : Pure Try.prog 14 ([U8 rm, .slice ba n cap, .slice bo no co]).toArray (fun w => Row w [] ba (l.flatMap De.L) ∧ Row w [] bo (o.map U8)) (.bool true) := by
  cases hf : fairD l with
  | true =>
    by_cases h0 : no = 0
    · exact towerBlind_no rm ba n cap l hn hm bo no co o ho hf h0
    · exact towerBlind_fair rm ba n cap l hn hm bo no co o ho hf (by omega)
  | false => exact towerBlind_un rm ba n cap l hn hm bo no co o ho hf

end Go.Proofs.Ytddckbhlfeegoaa
