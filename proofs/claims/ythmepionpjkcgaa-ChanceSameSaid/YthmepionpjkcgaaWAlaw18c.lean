/- The walk of functions of the program: what each computes, for every input. -/
import Derived.Test.YthmepionpjkcgaaWAFacts
import Derived.Test.YthmepionpjkcgaaWAchain
import Derived.Test.YthmepionpjkcgaaWAlaw18
namespace Go.Proofs.Ythmepionpjkcgaa
open Go Go.Eng
set_option linter.unusedVariables false
set_option linter.unusedSimpArgs false

/-- baize/baizelaw18.ChanceChains -/
theorem chanceChains_walk (x : BitVec 64) (y : UInt8) (ba : Option Addr) (n cap : Nat) (l : List UInt8) (far : Int) (o : BitVec 64) (hn : l.length = n) : Pure Try.prog 32 ([Dig x, U8 y, .slice ba n cap, I64 far, Dig o]).toArray (fun w => Row w [] ba (l.map U8)) (.bool true) := by
  obtain ⟨p', hp', hp'l⟩ := emod_nat (y.toNat : Int) 60 (by decide)
  obtain ⟨p, hp, hp1, hp2⟩ : ∃ p : Nat, (1 : Int) + (p' : Int) = (p : Int) ∧ 1 ≤ p ∧ p ≤ 60 := ⟨p' + 1, by omega, by omega, by omega⟩
  have hyl := y.toNat_lt
  obtain ⟨u, hu, hu1⟩ : ∃ u : Int, (if 0 < (if far < -5 then -5 else far) then 0 else (if far < -5 then -5 else far)) = u ∧ u < 1 := ⟨_, rfl, by split <;> omega⟩
  obtain ⟨v, hv, hv1⟩ : ∃ v : Int, (if far < 4097 then 4097 else far) = v ∧ 4096 < v := ⟨_, rfl, by split <;> omega⟩
  refine spec_walk (n := 158) Try.func32 rfl rfl rfl (fun w0 hpre => ?_)
  refine gc_seq ?_
  refine gc_region ?_
  refine gl_cons (gs_box rfl rfl rfl rfl (fun b5 => ?_))
  refine gl_cons (gs_box rfl rfl rfl rfl (fun b9 => ?_))
  refine gl_cons (gs_val (val_assign rfl) rfl rfl rfl ?_)
  refine gl_nil ?_
  refine gk_seq ?_
  refine gc_seq ?_
  refine gc_seq ?_
  refine gc_region ?_
  refine gl_cons (gs_pure (enters kcall85 .nil) (known18_spec) rfl rfl rfl (fun _ _ => trivial) ?_)
  refine gl_cons (gs_val (val_not rfl) rfl rfl rfl ?_)
  refine gl_cons (gs_val (val_move rfl) rfl rfl rfl ?_)
  refine gl_cons (gs_val (val_move rfl) rfl rfl rfl ?_)
  refine gl_cons (gs_val (val_lenSli ksl37 rfl) rfl rfl rfl ?_)
  refine gl_cons (gs_val (val_gtr rfl rfl) rfl rfl rfl ?_)
  refine gl_cons (gs_val (val_pick_f rfl rfl) rfl rfl rfl ?_)
  refine gl_nil ?_
  refine gk_seq ?_
  refine gc_if rfl (fun h36 => ?_) (fun h36 => ?_)
  · skip
    refine gc_seq ?_
    refine gc_region ?_
    refine gl_cons (gs_pure (enters kcall85 .nil) (known18_spec) rfl rfl rfl (fun _ _ => trivial) ?_)
    refine gl_cons (gs_val (val_assign rfl) rfl rfl rfl ?_)
    refine gl_nil ?_
    refine gk_seq ?_
    refine gc_ret ?_
    refine gk_seq_ret ?_
    refine gk_ret rfl (resv_tmp rfl .nil) (List.nil_sublist _) ?_
    exact ⟨rfl, rfl⟩
  · have hn60 : n ≤ 60 := by omega
    refine gc_skip ?_
    refine gk_seq ?_
    refine gc_seq ?_
    refine gc_region ?_
    refine gl_cons (gs_val (val_move rfl) rfl rfl rfl ?_)
    refine gl_cons (gs_val (val_convI rfl kis5 kun3 (by omega)) rfl rfl rfl ?_)
    refine gl_cons (gs_val (val_cast (v := I64 (p' : Int)) (val_remI rfl rfl (by omega)) (congrArg I64 hp')) rfl rfl rfl ?_)
    refine gl_cons (gs_val (val_cast (v := I64 (p : Int)) (val_addI rfl rfl (by omega)) (congrArg I64 hp)) rfl rfl rfl ?_)
    refine gl_cons (gs_val (val_assign rfl) rfl rfl rfl ?_)
    refine gl_nil ?_
    refine gk_seq ?_
    refine gc_seq ?_
    refine gc_region ?_
    refine gl_cons (gs_val (val_loadA kag22 rfl (sees_mem (by repeat (first | exact .head _ | refine .tail _ ?_ | refine List.mem_append_right _ ?_))) rfl rfl) rfl rfl rfl ?_)
    refine gl_cons (gs_val (val_move rfl) rfl rfl rfl ?_)
    refine gl_cons (gs_makes (enters kcall94 (.cons rfl (.cons rfl .nil))) (newC_ok x p hp1 (by omega)) rfl rfl rfl (fun _ _ => trivial) (fun bc _ => ?_))
    refine gl_cons (gs_val (val_move rfl) rfl rfl rfl ?_)
    refine gl_cons (gs_val (val_extract rfl rfl) rfl rfl rfl ?_)
    refine gl_cons (gs_val (val_extract rfl rfl) rfl rfl rfl ?_)
    refine gl_cons (gs_val (val_assign rfl) rfl rfl rfl ?_)
    refine gl_cons (gs_val (val_assign rfl) rfl rfl rfl ?_)
    refine gl_nil ?_
    refine gk_seq ?_
    refine gc_seq ?_
    refine gc_region ?_
    refine gl_cons (gs_val (val_loadA kag22 rfl (sees_mem (by repeat (first | exact .head _ | refine .tail _ ?_ | refine List.mem_append_right _ ?_))) rfl rfl) rfl rfl rfl ?_)
    refine gl_cons (gs_val (val_move rfl) rfl rfl rfl ?_)
    refine gl_cons (gs_val (val_move rfl) rfl rfl rfl ?_)
    refine gl_cons (gs_val (val_buildStr kze127 kpl127 (.cons rfl (.cons rfl (.cons rfl .nil))) rfl (.cons rfl rfl rfl (by simp) (by first | ((with_reducible refine splice_all _ _ ?_); simp; done) | (simp only [splice, stL, digL, List.take_succ_cons, List.take_zero, List.drop_succ_cons, List.drop_zero, List.length_cons, List.length_nil, Nat.reduceAdd, Nat.reduceMul, Nat.zero_add, Nat.zero_mul, List.cons_append, List.nil_append]; exact rfl)) (.cons rfl rfl rfl (by simp) (by first | ((with_reducible refine splice_all _ _ ?_); simp; done) | (simp only [splice, stL, digL, List.take_succ_cons, List.take_zero, List.drop_succ_cons, List.drop_zero, List.length_cons, List.length_nil, Nat.reduceAdd, Nat.reduceMul, Nat.zero_add, Nat.zero_mul, List.cons_append, List.nil_append]; exact rfl)) (.cons rfl rfl rfl (by simp) (by first | ((with_reducible refine splice_all _ _ ?_); simp; done) | (simp only [splice, stL, digL, List.take_succ_cons, List.take_zero, List.drop_succ_cons, List.drop_zero, List.length_cons, List.length_nil, Nat.reduceAdd, Nat.reduceMul, Nat.zero_add, Nat.zero_mul, List.cons_append, List.nil_append]; exact rfl)) .nil)))) rfl rfl rfl ?_)
    refine gl_cons (gs_alloc kze127 rfl rfl rfl (fun b14 => ?_))
    refine gl_cons (gs_store ksz127 rfl rfl rfl rfl rfl rfl (by first | exact .head | exact .tail .head | exact .tail (.tail .head) | exact .tail (.tail (.tail .head)) | exact .tail (.tail (.tail (.tail .head))) | exact .tail (.tail (.tail (.tail (.tail .head))))) (by simp) (by first | ((with_reducible refine splice_all _ _ ?_); simp; done) | (simp only [splice, stL, digL, List.take_succ_cons, List.take_zero, List.drop_succ_cons, List.drop_zero, List.length_cons, List.length_nil, Nat.reduceAdd, Nat.reduceMul, Nat.zero_add, Nat.zero_mul, List.cons_append, List.nil_append]; exact rfl)) ?_)
    refine gl_nil ?_
    refine gk_seq ?_
    refine gc_seq ?_
    refine gc_seq ?_
    refine gc_region ?_
    refine gl_cons (gs_val (val_move rfl) rfl rfl rfl ?_)
    refine gl_cons (gs_val (val_eqlNil kun123 rfl rfl) rfl rfl rfl ?_)
    refine gl_cons (gs_val (val_move rfl) rfl rfl rfl ?_)
    refine gl_cons (gs_val (val_move rfl) rfl rfl rfl ?_)
    refine gl_cons (gs_val (val_no (val_neq rfl rfl) (fun h => h rfl)) rfl rfl rfl ?_)
    refine gl_cons (gs_val (val_pick_f rfl rfl) rfl rfl rfl ?_)
    refine gl_cons (gs_val (val_move rfl) rfl rfl rfl ?_)
    refine gl_cons (gs_val (val_move rfl) rfl rfl rfl ?_)
    refine gl_cons (gs_val (val_loadA kag127 rfl (sees_mem (by repeat (first | exact .head _ | refine .tail _ ?_ | refine List.mem_append_right _ ?_))) rfl rfl) rfl rfl rfl ?_)
    refine gl_cons (gs_pure (enters kcall95 (.cons rfl (.cons rfl .nil))) (told18_spec bc x p p (by omega) (by omega)) rfl rfl rfl (row_of_sees (sees_all (by repeat (first | exact .head _ | refine .tail _ ?_ | refine List.mem_append_right _ ?_)))) ?_)
    refine gl_cons (gs_val (val_not rfl) rfl rfl rfl ?_)
    refine gl_cons (gs_val (val_pick_f rfl rfl) rfl rfl rfl ?_)
    refine gl_nil ?_
    refine gk_seq ?_
    refine gc_false rfl ?_
    refine gc_skip ?_
    refine gk_seq ?_
    refine gc_seq ?_
    refine gc_seq ?_
    refine gc_region ?_
    refine gl_cons (gs_val (val_move rfl) rfl rfl rfl ?_)
    refine gl_cons (gs_val (val_lenSli ksl37 rfl) rfl rfl rfl ?_)
    refine gl_cons (gs_val (val_move rfl) rfl rfl rfl ?_)
    refine gl_nil ?_
    refine gk_seq ?_
    refine gc_block ?_
    refine gc_loop (σ := Nat × Nat) (I := fun v => v.1 ≤ n ∧ v.2 ≤ p) (μ := fun v => n - v.1) (EI := fun v => [(66, I64 (v.1 : Int)), (3, I64 far), (5, .pointer (some ⟨b5, 0, none⟩)), (9, .pointer (some ⟨b9, 0, none⟩)), (11, I64 (p : Int)), (12, .pointer (some ⟨bc, 0, none⟩)), (14, .pointer (some ⟨b14, 0, none⟩)), (64, .slice ba n cap), (65, I64 (n : Int))]) (LI := fun v => [⟨b14, .cells (chL x p v.2).toArray 127 (0, 0)⟩, ⟨bc, .cells (chL x p v.2).toArray 166 (0, 0)⟩, ⟨b9, .cells (digL o).toArray 22 (0, 0)⟩, ⟨b5, .cells (digL x).toArray 22 (0, 0)⟩]) (0, p) ?_ ?_ ?_ ?_
    · exact ⟨Nat.zero_le _, Nat.le_refl _⟩
    · exact (.cons rfl (.cons rfl (.cons rfl (.cons rfl (.cons rfl (.cons rfl (.cons rfl (.cons rfl (.cons rfl .nil)))))))))
    · exact fun _ h => h
    · intro ⟨k, a⟩ ⟨hkn, hap⟩
      dsimp only
      have hkn : k ≤ n := hkn
      have hap : a ≤ p := hap
      refine gc_seq ?_
      refine gc_region ?_
      refine gl_cons (gs_val (val_lss rfl rfl) rfl rfl rfl ?_)
      refine gl_nil ?_
      refine gk_seq ?_
      refine gc_seq ?_
      refine gc_if rfl (fun hk => ?_) (fun hk => ?_)
      · have hk : k < l.length := by omega
        have hlk := l[k].toNat_lt
        refine gc_skip ?_
        refine gk_seq ?_
        refine gc_seq ?_
        refine gc_block ?_
        refine gc_seq ?_
        refine gc_region ?_
        refine gl_cons (gs_val (val_indexSli ksl37 rfl rfl rfl (by omega) (sees_row hpre) (by (try simp only [List.length_map, Nat.mul_one, dig_len, inc_len]); omega)) rfl rfl rfl ?_)
        refine gl_cons (gs_val (val_load1 kag5 rfl ((sees_row hpre).elem hk) rfl) rfl rfl rfl ?_)
        refine gl_cons (gs_val (val_assign rfl) rfl rfl rfl ?_)
        refine gl_nil ?_
        refine gk_seq ?_
        refine gc_seq ?_
        refine gc_seq ?_
        refine gc_region ?_
        refine gl_cons (gs_val (val_move rfl) rfl rfl rfl ?_)
        refine gl_cons (gs_val (val_rem8 (k := 4) rfl rfl rfl (by decide)) rfl rfl rfl ?_)
        refine gl_cons (gs_val (val_eql rfl rfl) rfl rfl rfl ?_)
        refine gl_nil ?_
        refine gk_seq ?_
        refine gc_if rfl (fun h72 => ?_) (fun h72 => ?_)
        · obtain ⟨a2, ha2⟩ : ∃ a2, a2 = a - 1 := ⟨_, rfl⟩
          refine gc_seq ?_
          refine gc_region ?_
          refine gl_cons (gs_alloc kze22 rfl rfl rfl (fun b17 => ?_))
          refine gl_nil ?_
          refine gk_seq ?_
          refine gc_seq ?_
          refine gc_region ?_
          refine gl_cons (gs_val (val_assign rfl) rfl rfl rfl ?_)
          refine gl_nil ?_
          refine gk_seq ?_
          refine gc_seq ?_
          refine gc_region ?_
          refine gl_cons (gs_val (val_loadA kag127 rfl (sees_mem (by repeat (first | exact .head _ | refine .tail _ ?_ | refine List.mem_append_right _ ?_))) rfl rfl) rfl rfl rfl ?_)
          refine gl_cons (gs_pure (enters kcall96 (.cons rfl .nil)) (rShow_spec x p a (by omega)) rfl rfl rfl (fun _ _ => trivial) ?_)
          refine gl_cons (gs_val (val_move rfl) rfl rfl rfl ?_)
          refine gl_cons (gs_val (val_extract rfl rfl) rfl rfl rfl ?_)
          refine gl_cons (gs_val (val_extract rfl rfl) rfl rfl rfl ?_)
          refine gl_cons (gs_val (val_extract rfl rfl) rfl rfl rfl ?_)
          refine gl_cons (gs_store ksz127 rfl rfl rfl rfl rfl rfl (by first | exact .head | exact .tail .head | exact .tail (.tail .head) | exact .tail (.tail (.tail .head)) | exact .tail (.tail (.tail (.tail .head))) | exact .tail (.tail (.tail (.tail (.tail .head))))) (by simp) (by first | ((with_reducible refine splice_all _ _ ?_); simp; done) | (simp only [splice, stL, digL, List.take_succ_cons, List.take_zero, List.drop_succ_cons, List.drop_zero, List.length_cons, List.length_nil, Nat.reduceAdd, Nat.reduceMul, Nat.zero_add, Nat.zero_mul, List.cons_append, List.nil_append]; exact rfl)) ?_)
          refine gl_cons (gs_store ksz22 rfl rfl rfl rfl rfl rfl (by first | exact .head | exact .tail .head | exact .tail (.tail .head) | exact .tail (.tail (.tail .head)) | exact .tail (.tail (.tail (.tail .head))) | exact .tail (.tail (.tail (.tail (.tail .head))))) (by simp) (by first | ((with_reducible refine splice_all _ _ ?_); simp; done) | (simp only [splice, stL, digL, List.take_succ_cons, List.take_zero, List.drop_succ_cons, List.drop_zero, List.length_cons, List.length_nil, Nat.reduceAdd, Nat.reduceMul, Nat.zero_add, Nat.zero_mul, List.cons_append, List.nil_append]; exact rfl)) ?_)
          refine gl_cons (gs_val (val_assign rfl) rfl rfl rfl ?_)
          refine gl_nil ?_
          refine gk_seq ?_
          refine gc_seq ?_
          refine gc_region ?_
          refine gl_cons (gs_val (val_move rfl) rfl rfl rfl ?_)
          refine gl_cons (gs_mods (enters kcall97 (.cons rfl .nil)) (show_spec bc x p a (by omega)) rfl rfl rfl (by first | exact .head | exact .tail .head | exact .tail (.tail .head) | exact .tail (.tail (.tail .head)) | exact .tail (.tail (.tail (.tail .head))) | exact .tail (.tail (.tail (.tail (.tail .head))))) (fun _ _ => trivial) ?_)
          refine gl_cons (gs_val (val_move rfl) rfl rfl rfl ?_)
          refine gl_cons (gs_val (val_extract rfl rfl) rfl rfl rfl ?_)
          refine gl_cons (gs_val (val_extract rfl rfl) rfl rfl rfl ?_)
          refine gl_cons (gs_alloc kze24 rfl rfl rfl (fun b19 => ?_))
          refine gl_cons (gs_store ksz24 rfl rfl rfl rfl rfl rfl (by first | exact .head | exact .tail .head | exact .tail (.tail .head) | exact .tail (.tail (.tail .head)) | exact .tail (.tail (.tail (.tail .head))) | exact .tail (.tail (.tail (.tail (.tail .head))))) (by simp) (by first | ((with_reducible refine splice_all _ _ ?_); simp; done) | (simp only [splice, stL, digL, List.take_succ_cons, List.take_zero, List.drop_succ_cons, List.drop_zero, List.length_cons, List.length_nil, Nat.reduceAdd, Nat.reduceMul, Nat.zero_add, Nat.zero_mul, List.cons_append, List.nil_append]; exact rfl)) ?_)
          refine gl_cons (gs_val (val_assign rfl) rfl rfl rfl ?_)
          refine gl_nil ?_
          refine gk_seq ?_
          refine gc_seq ?_
          refine gc_region ?_
          refine gl_cons (gs_val (val_loadA kag24 rfl (sees_mem (by repeat (first | exact .head _ | refine .tail _ ?_ | refine List.mem_append_right _ ?_))) rfl rfl) rfl rfl rfl ?_)
          refine gl_cons (gs_val (val_loadA kag22 rfl (sees_mem (by repeat (first | exact .head _ | refine .tail _ ?_ | refine List.mem_append_right _ ?_))) rfl rfl) rfl rfl rfl ?_)
          refine gl_cons (gs_val (val_no (val_neqDig kdig22 rfl rfl rfl rfl) (fun h => h rfl)) rfl rfl rfl ?_)
          refine gl_cons (gs_val (val_move rfl) rfl rfl rfl ?_)
          refine gl_cons (gs_val (val_move rfl) rfl rfl rfl ?_)
          refine gl_cons (gs_val (val_move rfl) rfl rfl rfl ?_)
          refine gl_cons (gs_val (val_no (val_neq rfl rfl) (fun h => h rfl)) rfl rfl rfl ?_)
          refine gl_cons (gs_val (val_pick_f rfl rfl) rfl rfl rfl ?_)
          refine gl_nil ?_
          refine gk_seq ?_
          refine gc_false rfl ?_
          refine gc_skip ?_
          refine gk_seq ?_
          refine gc_seq ?_
          refine gc_region ?_
          refine gl_cons (gs_val (val_move rfl) rfl rfl rfl ?_)
          refine gl_cons (gs_val (val_loadA kag127 rfl (sees_mem (by repeat (first | exact .head _ | refine .tail _ ?_ | refine List.mem_append_right _ ?_))) rfl rfl) rfl rfl rfl ?_)
          refine gl_cons (gs_pure (enters kcall95 (.cons rfl (.cons rfl .nil))) (told18_spec bc x p (a - 1) (by omega) (by omega)) rfl rfl rfl (row_of_sees (sees_all (by repeat (first | exact .head _ | refine .tail _ ?_ | refine List.mem_append_right _ ?_)))) ?_)
          refine gl_cons (gs_val (val_not rfl) rfl rfl rfl ?_)
          refine gl_nil ?_
          refine gk_seq ?_
          refine gc_false rfl ?_
          refine gc_skip ?_
          refine gk_block ?_
          refine gk_seq ?_
          refine gc_region ?_
          refine gl_cons (gs_val (val_addI rfl rfl (by omega)) rfl rfl rfl ?_)
          refine gl_cons (gs_val (val_move rfl) rfl rfl rfl ?_)
          refine gl_nil ?_
          refine gk_again (k + 1, a2) ?_ ?_ ?_ ?_
          · exact ⟨by show k + 1 ≤ n; omega, by show a2 ≤ p; omega⟩
          · show n - (k + 1) < n - k; omega
          · exact (.cons (rfl) (.cons (rfl) (.cons (rfl) (.cons (rfl) (.cons (rfl) (.cons (rfl) (.cons (rfl) (.cons (rfl) (.cons (rfl) .nil)))))))))
          · first | (subst ha2; exact fun _ h => h.sub (.cons _ (.cons _ (List.Sublist.refl _)))) | (subst ha2; exact fun _ h => h.sub (.cons _ (.cons _ (.cons _ (List.Sublist.refl _)))))
        · obtain ⟨a2, ha2⟩ : ∃ a2, a2 = a := ⟨_, rfl⟩
          refine gc_seq ?_
          refine ga_start (m := 10) (ls := [false, false, false, false, false, false, false, false, false, false]) kmixed rfl rfl ?_
          apply share1 (α := Nat) (m' := 1) (ls' := [true, true, true, true, true, true, true, true, true, false])
          · intro hD0
            apply share1 (α := Nat) (m' := 2) (ls' := [true, true, true, true, true, true, true, false, true, false])
            · intro hD1
              refine ga_take (i := 1) (ls' := [false, true, false, false, false, false, false, false, false, false]) rfl (by kernel_rfl) rfl (fun _ _ _ => val_move rfl) rfl rfl rfl ?_
              refine ga_take (i := 2) (ls' := [false, true, true, false, false, false, false, false, false, false]) rfl (by kernel_rfl) rfl (fun _ _ _ => val_quo8 (k := 4) rfl rfl rfl (by decide)) rfl rfl rfl ?_
              refine ga_take (i := 3) (ls' := [false, true, true, true, false, false, false, false, false, false]) rfl (by kernel_rfl) rfl (fun _ _ _ => val_convI rfl kis5 kun3 (by omega)) rfl rfl rfl ?_
              refine ga_take (i := 4) (ls' := [false, true, true, true, true, false, false, false, false, false]) rfl (by kernel_rfl) rfl (fun _ _ _ => val_move rfl) rfl rfl rfl ?_
              refine ga_take (i := 5) (ls' := [false, true, true, true, true, true, false, false, false, false]) rfl (by kernel_rfl) rfl (fun _ _ _ => val_addI rfl rfl (by omega)) rfl rfl rfl ?_
              refine ga_take (i := 6) (ls' := [false, true, true, true, true, true, true, false, false, false]) rfl (by kernel_rfl) rfl (fun _ _ _ => val_remI rfl rfl (by omega)) rfl rfl rfl ?_
              refine ga_branch (rs := [0, 8]) (by kernel_rfl) rfl (.cons (ls' := [true, true, true, true, true, true, true, false, false, false]) rfl rfl ?_ (.cons (ls' := [false, true, true, true, true, true, true, false, true, false]) rfl rfl ?_ .nil))
              · skip
                refine gs_val (val_loadA kag127 rfl (sees_mem (by repeat (first | exact .head _ | refine .tail _ ?_ | refine List.mem_append_right _ ?_))) rfl rfl) rfl rfl rfl ?_
                refine ga_branch (rs := [7, 8]) (by kernel_rfl) rfl (.cons (ls' := [true, true, true, true, true, true, true, true, false, false]) rfl rfl ?_ (.cons (ls' := [true, true, true, true, true, true, true, false, true, false]) rfl rfl ?_ .nil))
                · skip
                  refine gs_pure (enters kcall98 (.cons rfl (.cons rfl .nil))) (rPlace_spec x p a _) rfl rfl rfl (fun _ _ => trivial) ?_
                  refine ga_branch (rs := [8]) (by kernel_rfl) rfl (.cons (ls' := [true, true, true, true, true, true, true, true, true, false]) rfl rfl ?_ .nil)
                  refine gs_alloc kze22 rfl rfl rfl (fun b21 => ?_)
                  refine gx_env (F := [(3, _), (5, _), (9, _), (11, _), (12, _), (14, _), (16, _), (21, _), (64, _), (65, _), (66, _), (67, _), (68, _), (69, _), (70, _), (71, _), (72, _), (92, _), (93, _), (94, _), (95, _), (96, _), (97, _), (98, _), (99, _)]) (.cons rfl (.cons rfl (.cons rfl (.cons rfl (.cons rfl (.cons rfl (.cons rfl (.cons rfl (.cons rfl (.cons rfl (.cons rfl (.cons rfl (.cons rfl (.cons rfl (.cons rfl (.cons rfl (.cons rfl (.cons rfl (.cons rfl (.cons rfl (.cons rfl (.cons rfl (.cons rfl (.cons rfl (.cons rfl .nil))))))))))))))))))))))))) (gx_perm (by first | exact .refl _ | (repeat (first | exact .refl _ | refine perm_take (by first | exact .head | exact .tail .head | exact .tail (.tail .head) | exact .tail (.tail (.tail .head)) | exact .tail (.tail (.tail (.tail .head))) | exact .tail (.tail (.tail (.tail (.tail .head))))) ?_))) (hD0 b21 True.intro))
                · skip
                  refine gs_alloc kze22 rfl rfl rfl (fun b21 => ?_)
                  refine gx_env (F := [(3, _), (5, _), (9, _), (11, _), (12, _), (14, _), (16, _), (21, _), (64, _), (65, _), (66, _), (67, _), (68, _), (69, _), (70, _), (71, _), (72, _), (92, _), (93, _), (94, _), (95, _), (96, _), (97, _), (98, _)]) (.cons rfl (.cons rfl (.cons rfl (.cons rfl (.cons rfl (.cons rfl (.cons rfl (.cons rfl (.cons rfl (.cons rfl (.cons rfl (.cons rfl (.cons rfl (.cons rfl (.cons rfl (.cons rfl (.cons rfl (.cons rfl (.cons rfl (.cons rfl (.cons rfl (.cons rfl (.cons rfl (.cons rfl .nil)))))))))))))))))))))))) (gx_perm (by first | exact .refl _ | (repeat (first | exact .refl _ | refine perm_take (by first | exact .head | exact .tail .head | exact .tail (.tail .head) | exact .tail (.tail (.tail .head)) | exact .tail (.tail (.tail (.tail .head))) | exact .tail (.tail (.tail (.tail (.tail .head))))) ?_))) (hD1 b21 True.intro))
              · skip
                refine gs_alloc kze22 rfl rfl rfl (fun b21 => ?_)
                refine ga_branch (rs := [0]) (by kernel_rfl) rfl (.cons (ls' := [true, true, true, true, true, true, true, false, true, false]) rfl rfl ?_ .nil)
                refine gs_val (val_loadA kag127 rfl (sees_mem (by repeat (first | exact .head _ | refine .tail _ ?_ | refine List.mem_append_right _ ?_))) rfl rfl) rfl rfl rfl ?_
                refine gx_env (F := [(3, _), (5, _), (9, _), (11, _), (12, _), (14, _), (16, _), (21, _), (64, _), (65, _), (66, _), (67, _), (68, _), (69, _), (70, _), (71, _), (72, _), (92, _), (93, _), (94, _), (95, _), (96, _), (97, _), (98, _)]) (.cons rfl (.cons rfl (.cons rfl (.cons rfl (.cons rfl (.cons rfl (.cons rfl (.cons rfl (.cons rfl (.cons rfl (.cons rfl (.cons rfl (.cons rfl (.cons rfl (.cons rfl (.cons rfl (.cons rfl (.cons rfl (.cons rfl (.cons rfl (.cons rfl (.cons rfl (.cons rfl (.cons rfl .nil)))))))))))))))))))))))) (gx_perm (by first | exact .refl _ | (repeat (first | exact .refl _ | refine perm_take (by first | exact .head | exact .tail .head | exact .tail (.tail .head) | exact .tail (.tail (.tail .head)) | exact .tail (.tail (.tail (.tail .head))) | exact .tail (.tail (.tail (.tail (.tail .head))))) ?_))) (hD1 b21 True.intro))
            · rintro b21 _
              refine ga_branch (rs := [7]) (by kernel_rfl) rfl (.cons (ls' := [true, true, true, true, true, true, true, true, true, false]) rfl rfl ?_ .nil)
              refine gs_pure (enters kcall98 (.cons rfl (.cons rfl .nil))) (rPlace_spec x p a _) rfl rfl rfl (fun _ _ => trivial) ?_
              refine gx_env (F := [(3, _), (5, _), (9, _), (11, _), (12, _), (14, _), (16, _), (21, _), (64, _), (65, _), (66, _), (67, _), (68, _), (69, _), (70, _), (71, _), (72, _), (92, _), (93, _), (94, _), (95, _), (96, _), (97, _), (98, _), (99, _)]) (.cons rfl (.cons rfl (.cons rfl (.cons rfl (.cons rfl (.cons rfl (.cons rfl (.cons rfl (.cons rfl (.cons rfl (.cons rfl (.cons rfl (.cons rfl (.cons rfl (.cons rfl (.cons rfl (.cons rfl (.cons rfl (.cons rfl (.cons rfl (.cons rfl (.cons rfl (.cons rfl (.cons rfl (.cons rfl .nil))))))))))))))))))))))))) (gx_perm (by first | exact .refl _ | (repeat (first | exact .refl _ | refine perm_take (by first | exact .head | exact .tail .head | exact .tail (.tail .head) | exact .tail (.tail (.tail .head)) | exact .tail (.tail (.tail (.tail .head))) | exact .tail (.tail (.tail (.tail (.tail .head))))) ?_))) (hD0 b21 True.intro))
          · rintro b21 _
            refine ga_branch (rs := [9]) (by kernel_rfl) rfl (.cons (ls' := [true, true, true, true, true, true, true, true, true, true]) rfl rfl ?_ .nil)
            refine gs_store ksz22 rfl rfl rfl rfl rfl rfl (by first | exact .head | exact .tail .head | exact .tail (.tail .head) | exact .tail (.tail (.tail .head)) | exact .tail (.tail (.tail (.tail .head))) | exact .tail (.tail (.tail (.tail (.tail .head))))) (by simp) (by first | ((with_reducible refine splice_all _ _ ?_); simp; done) | (simp only [splice, stL, digL, List.take_succ_cons, List.take_zero, List.drop_succ_cons, List.drop_zero, List.length_cons, List.length_nil, Nat.reduceAdd, Nat.reduceMul, Nat.zero_add, Nat.zero_mul, List.cons_append, List.nil_append]; exact rfl)) ?_
            refine ga_done (by kernel_rfl) ?_
            refine gk_seq ?_
            refine gc_seq ?_
            refine gc_seq ?_
            refine gc_region ?_
            refine gl_cons (gs_val (val_move rfl) rfl rfl rfl ?_)
            refine gl_cons (gs_val (val_rem8 (k := 4) rfl rfl rfl (by decide)) rfl rfl rfl ?_)
            refine gl_cons (gs_val (val_eql rfl rfl) rfl rfl rfl ?_)
            refine gl_nil ?_
            refine gk_seq ?_
            refine gc_if rfl (fun h102 => ?_) (fun h102 => ?_)
            · skip
              refine gc_region ?_
              refine gl_cons (gs_val (val_loadA kag22 rfl (sees_mem (by repeat (first | exact .head _ | refine .tail _ ?_ | refine List.mem_append_right _ ?_))) rfl rfl) rfl rfl rfl ?_)
              refine gl_cons (gs_store ksz22 rfl rfl rfl rfl rfl rfl (by first | exact .head | exact .tail .head | exact .tail (.tail .head) | exact .tail (.tail (.tail .head)) | exact .tail (.tail (.tail (.tail .head))) | exact .tail (.tail (.tail (.tail (.tail .head))))) (by simp) (by first | ((with_reducible refine splice_all _ _ ?_); simp; done) | (simp only [splice, stL, digL, List.take_succ_cons, List.take_zero, List.drop_succ_cons, List.drop_zero, List.length_cons, List.length_nil, Nat.reduceAdd, Nat.reduceMul, Nat.zero_add, Nat.zero_mul, List.cons_append, List.nil_append]; exact rfl)) ?_)
              refine gl_nil ?_
              refine gk_seq ?_
              refine gc_seq ?_
              refine gc_region ?_
              refine gl_cons (gs_val (val_loadA kag127 rfl (sees_mem (by repeat (first | exact .head _ | refine .tail _ ?_ | refine List.mem_append_right _ ?_))) rfl rfl) rfl rfl rfl ?_)
              refine gl_cons (gs_val (val_loadA kag22 rfl (sees_mem (by repeat (first | exact .head _ | refine .tail _ ?_ | refine List.mem_append_right _ ?_))) rfl rfl) rfl rfl rfl ?_)
              refine gl_cons (gs_pure (enters kcall99 (.cons rfl (.cons rfl .nil))) (rAnswer_spec x p a _ (by omega)) rfl rfl rfl (fun _ _ => trivial) ?_)
              refine gl_cons (gs_val (val_move rfl) rfl rfl rfl ?_)
              refine gl_cons (gs_val (val_extract rfl rfl) rfl rfl rfl ?_)
              refine gl_cons (gs_val (val_extract rfl rfl) rfl rfl rfl ?_)
              refine gl_cons (gs_alloc kze22 rfl rfl rfl (fun b22 => ?_))
              refine gl_cons (gs_store ksz22 rfl rfl rfl rfl rfl rfl (by first | exact .head | exact .tail .head | exact .tail (.tail .head) | exact .tail (.tail (.tail .head)) | exact .tail (.tail (.tail (.tail .head))) | exact .tail (.tail (.tail (.tail (.tail .head))))) (by simp) (by first | ((with_reducible refine splice_all _ _ ?_); simp; done) | (simp only [splice, stL, digL, List.take_succ_cons, List.take_zero, List.drop_succ_cons, List.drop_zero, List.length_cons, List.length_nil, Nat.reduceAdd, Nat.reduceMul, Nat.zero_add, Nat.zero_mul, List.cons_append, List.nil_append]; exact rfl)) ?_)
              refine gl_cons (gs_val (val_assign rfl) rfl rfl rfl ?_)
              refine gl_nil ?_
              refine gk_seq ?_
              refine gc_seq ?_
              refine gc_region ?_
              refine gl_cons (gs_val (val_move rfl) rfl rfl rfl ?_)
              refine gl_cons (gs_val (val_loadA kag22 rfl (sees_mem (by repeat (first | exact .head _ | refine .tail _ ?_ | refine List.mem_append_right _ ?_))) rfl rfl) rfl rfl rfl ?_)
              refine gl_cons (gs_pure (enters kcall100 (.cons rfl (.cons rfl .nil))) (answer_spec bc x p a _ (by omega)) rfl rfl rfl (row_of_sees (sees_all (by repeat (first | exact .head _ | refine .tail _ ?_ | refine List.mem_append_right _ ?_)))) ?_)
              refine gl_cons (gs_val (val_move rfl) rfl rfl rfl ?_)
              refine gl_cons (gs_val (val_extract rfl rfl) rfl rfl rfl ?_)
              refine gl_cons (gs_val (val_extract rfl rfl) rfl rfl rfl ?_)
              refine gl_cons (gs_alloc kze24 rfl rfl rfl (fun b24 => ?_))
              refine gl_cons (gs_store ksz24 rfl rfl rfl rfl rfl rfl (by first | exact .head | exact .tail .head | exact .tail (.tail .head) | exact .tail (.tail (.tail .head)) | exact .tail (.tail (.tail (.tail .head))) | exact .tail (.tail (.tail (.tail (.tail .head))))) (by simp) (by first | ((with_reducible refine splice_all _ _ ?_); simp; done) | (simp only [splice, stL, digL, List.take_succ_cons, List.take_zero, List.drop_succ_cons, List.drop_zero, List.length_cons, List.length_nil, Nat.reduceAdd, Nat.reduceMul, Nat.zero_add, Nat.zero_mul, List.cons_append, List.nil_append]; exact rfl)) ?_)
              refine gl_cons (gs_val (val_assign rfl) rfl rfl rfl ?_)
              refine gl_nil ?_
              refine gk_seq ?_
              refine gc_seq ?_
              refine gc_region ?_
              refine gl_cons (gs_val (val_loadA kag24 rfl (sees_mem (by repeat (first | exact .head _ | refine .tail _ ?_ | refine List.mem_append_right _ ?_))) rfl rfl) rfl rfl rfl ?_)
              refine gl_cons (gs_val (val_loadA kag22 rfl (sees_mem (by repeat (first | exact .head _ | refine .tail _ ?_ | refine List.mem_append_right _ ?_))) rfl rfl) rfl rfl rfl ?_)
              refine gl_cons (gs_val (val_no (val_neqDig kdig22 rfl rfl rfl rfl) (fun h => h rfl)) rfl rfl rfl ?_)
              refine gl_cons (gs_val (val_move rfl) rfl rfl rfl ?_)
              refine gl_cons (gs_val (val_move rfl) rfl rfl rfl ?_)
              refine gl_cons (gs_val (val_move rfl) rfl rfl rfl ?_)
              refine gl_cons (gs_val (val_no (val_neq rfl rfl) (fun h => h rfl)) rfl rfl rfl ?_)
              refine gl_cons (gs_val (val_pick_f rfl rfl) rfl rfl rfl ?_)
              refine gl_nil ?_
              refine gk_seq ?_
              refine gc_false rfl ?_
              refine gc_skip ?_
              refine gk_seq ?_
              refine gc_seq ?_
              refine gc_region ?_
              refine gl_cons (gs_val (val_move rfl) rfl rfl rfl ?_)
              refine gl_cons (gs_val (val_loadA kag127 rfl (sees_mem (by repeat (first | exact .head _ | refine .tail _ ?_ | refine List.mem_append_right _ ?_))) rfl rfl) rfl rfl rfl ?_)
              refine gl_cons (gs_pure (enters kcall95 (.cons rfl (.cons rfl .nil))) (told18_spec bc x p a (by omega) (by omega)) rfl rfl rfl (row_of_sees (sees_all (by repeat (first | exact .head _ | refine .tail _ ?_ | refine List.mem_append_right _ ?_)))) ?_)
              refine gl_cons (gs_val (val_not rfl) rfl rfl rfl ?_)
              refine gl_nil ?_
              refine gk_seq ?_
              refine gc_false rfl ?_
              refine gc_skip ?_
              refine gk_block ?_
              refine gk_seq ?_
              refine gc_region ?_
              refine gl_cons (gs_val (val_addI rfl rfl (by omega)) rfl rfl rfl ?_)
              refine gl_cons (gs_val (val_move rfl) rfl rfl rfl ?_)
              refine gl_nil ?_
              refine gk_again (k + 1, a2) ?_ ?_ ?_ ?_
              · exact ⟨by show k + 1 ≤ n; omega, by show a2 ≤ p; omega⟩
              · show n - (k + 1) < n - k; omega
              · exact (.cons (rfl) (.cons (rfl) (.cons (rfl) (.cons (rfl) (.cons (rfl) (.cons (rfl) (.cons (rfl) (.cons (rfl) (.cons (rfl) .nil)))))))))
              · first | (subst ha2; exact fun _ h => h.sub (.cons _ (.cons _ (List.Sublist.refl _)))) | (subst ha2; exact fun _ h => h.sub (.cons _ (.cons _ (.cons _ (List.Sublist.refl _)))))
            · skip
              refine gc_skip ?_
              refine gk_seq ?_
              refine gc_seq ?_
              refine gc_region ?_
              refine gl_cons (gs_val (val_loadA kag127 rfl (sees_mem (by repeat (first | exact .head _ | refine .tail _ ?_ | refine List.mem_append_right _ ?_))) rfl rfl) rfl rfl rfl ?_)
              refine gl_cons (gs_val (val_loadA kag22 rfl (sees_mem (by repeat (first | exact .head _ | refine .tail _ ?_ | refine List.mem_append_right _ ?_))) rfl rfl) rfl rfl rfl ?_)
              refine gl_cons (gs_pure (enters kcall99 (.cons rfl (.cons rfl .nil))) (rAnswer_spec x p a _ (by omega)) rfl rfl rfl (fun _ _ => trivial) ?_)
              refine gl_cons (gs_val (val_move rfl) rfl rfl rfl ?_)
              refine gl_cons (gs_val (val_extract rfl rfl) rfl rfl rfl ?_)
              refine gl_cons (gs_val (val_extract rfl rfl) rfl rfl rfl ?_)
              refine gl_cons (gs_alloc kze22 rfl rfl rfl (fun b22 => ?_))
              refine gl_cons (gs_store ksz22 rfl rfl rfl rfl rfl rfl (by first | exact .head | exact .tail .head | exact .tail (.tail .head) | exact .tail (.tail (.tail .head)) | exact .tail (.tail (.tail (.tail .head))) | exact .tail (.tail (.tail (.tail (.tail .head))))) (by simp) (by first | ((with_reducible refine splice_all _ _ ?_); simp; done) | (simp only [splice, stL, digL, List.take_succ_cons, List.take_zero, List.drop_succ_cons, List.drop_zero, List.length_cons, List.length_nil, Nat.reduceAdd, Nat.reduceMul, Nat.zero_add, Nat.zero_mul, List.cons_append, List.nil_append]; exact rfl)) ?_)
              refine gl_cons (gs_val (val_assign rfl) rfl rfl rfl ?_)
              refine gl_nil ?_
              refine gk_seq ?_
              refine gc_seq ?_
              refine gc_region ?_
              refine gl_cons (gs_val (val_move rfl) rfl rfl rfl ?_)
              refine gl_cons (gs_val (val_loadA kag22 rfl (sees_mem (by repeat (first | exact .head _ | refine .tail _ ?_ | refine List.mem_append_right _ ?_))) rfl rfl) rfl rfl rfl ?_)
              refine gl_cons (gs_pure (enters kcall100 (.cons rfl (.cons rfl .nil))) (answer_spec bc x p a _ (by omega)) rfl rfl rfl (row_of_sees (sees_all (by repeat (first | exact .head _ | refine .tail _ ?_ | refine List.mem_append_right _ ?_)))) ?_)
              refine gl_cons (gs_val (val_move rfl) rfl rfl rfl ?_)
              refine gl_cons (gs_val (val_extract rfl rfl) rfl rfl rfl ?_)
              refine gl_cons (gs_val (val_extract rfl rfl) rfl rfl rfl ?_)
              refine gl_cons (gs_alloc kze24 rfl rfl rfl (fun b24 => ?_))
              refine gl_cons (gs_store ksz24 rfl rfl rfl rfl rfl rfl (by first | exact .head | exact .tail .head | exact .tail (.tail .head) | exact .tail (.tail (.tail .head)) | exact .tail (.tail (.tail (.tail .head))) | exact .tail (.tail (.tail (.tail (.tail .head))))) (by simp) (by first | ((with_reducible refine splice_all _ _ ?_); simp; done) | (simp only [splice, stL, digL, List.take_succ_cons, List.take_zero, List.drop_succ_cons, List.drop_zero, List.length_cons, List.length_nil, Nat.reduceAdd, Nat.reduceMul, Nat.zero_add, Nat.zero_mul, List.cons_append, List.nil_append]; exact rfl)) ?_)
              refine gl_cons (gs_val (val_assign rfl) rfl rfl rfl ?_)
              refine gl_nil ?_
              refine gk_seq ?_
              refine gc_seq ?_
              refine gc_region ?_
              refine gl_cons (gs_val (val_loadA kag24 rfl (sees_mem (by repeat (first | exact .head _ | refine .tail _ ?_ | refine List.mem_append_right _ ?_))) rfl rfl) rfl rfl rfl ?_)
              refine gl_cons (gs_val (val_loadA kag22 rfl (sees_mem (by repeat (first | exact .head _ | refine .tail _ ?_ | refine List.mem_append_right _ ?_))) rfl rfl) rfl rfl rfl ?_)
              refine gl_cons (gs_val (val_no (val_neqDig kdig22 rfl rfl rfl rfl) (fun h => h rfl)) rfl rfl rfl ?_)
              refine gl_cons (gs_val (val_move rfl) rfl rfl rfl ?_)
              refine gl_cons (gs_val (val_move rfl) rfl rfl rfl ?_)
              refine gl_cons (gs_val (val_move rfl) rfl rfl rfl ?_)
              refine gl_cons (gs_val (val_no (val_neq rfl rfl) (fun h => h rfl)) rfl rfl rfl ?_)
              refine gl_cons (gs_val (val_pick_f rfl rfl) rfl rfl rfl ?_)
              refine gl_nil ?_
              refine gk_seq ?_
              refine gc_false rfl ?_
              refine gc_skip ?_
              refine gk_seq ?_
              refine gc_seq ?_
              refine gc_region ?_
              refine gl_cons (gs_val (val_move rfl) rfl rfl rfl ?_)
              refine gl_cons (gs_val (val_loadA kag127 rfl (sees_mem (by repeat (first | exact .head _ | refine .tail _ ?_ | refine List.mem_append_right _ ?_))) rfl rfl) rfl rfl rfl ?_)
              refine gl_cons (gs_pure (enters kcall95 (.cons rfl (.cons rfl .nil))) (told18_spec bc x p a (by omega) (by omega)) rfl rfl rfl (row_of_sees (sees_all (by repeat (first | exact .head _ | refine .tail _ ?_ | refine List.mem_append_right _ ?_)))) ?_)
              refine gl_cons (gs_val (val_not rfl) rfl rfl rfl ?_)
              refine gl_nil ?_
              refine gk_seq ?_
              refine gc_false rfl ?_
              refine gc_skip ?_
              refine gk_block ?_
              refine gk_seq ?_
              refine gc_region ?_
              refine gl_cons (gs_val (val_addI rfl rfl (by omega)) rfl rfl rfl ?_)
              refine gl_cons (gs_val (val_move rfl) rfl rfl rfl ?_)
              refine gl_nil ?_
              refine gk_again (k + 1, a2) ?_ ?_ ?_ ?_
              · exact ⟨by show k + 1 ≤ n; omega, by show a2 ≤ p; omega⟩
              · show n - (k + 1) < n - k; omega
              · exact (.cons (rfl) (.cons (rfl) (.cons (rfl) (.cons (rfl) (.cons (rfl) (.cons (rfl) (.cons (rfl) (.cons (rfl) (.cons (rfl) .nil)))))))))
              · first | (subst ha2; exact fun _ h => h.sub (.cons _ (.cons _ (List.Sublist.refl _)))) | (subst ha2; exact fun _ h => h.sub (.cons _ (.cons _ (.cons _ (List.Sublist.refl _)))))
      · skip
        refine gc_exit ?_
        refine gk_seq_exit ?_
        refine gk_loop_exit ?_
        refine gk_block_exit ?_
        refine gk_seq ?_
        refine gc_seq ?_
        refine gc_region ?_
        refine gl_cons (gs_val (val_loadA kag22 rfl (sees_mem (by repeat (first | exact .head _ | refine .tail _ ?_ | refine List.mem_append_right _ ?_))) rfl rfl) rfl rfl rfl ?_)
        refine gl_cons (gs_val (val_move rfl) rfl rfl rfl ?_)
        refine gl_cons (gs_val (val_max2 rfl rfl) rfl rfl rfl ?_)
        refine gl_cons (gs_val (val_cast (v := I64 u) (val_min2 rfl rfl) (congrArg I64 hu)) rfl rfl rfl ?_)
        refine gl_cons (gs_pure (enters kcall94 (.cons rfl (.cons rfl .nil))) (newC_no x u (.inl hu1)) rfl rfl rfl (fun _ _ => trivial) ?_)
        refine gl_cons (gs_val (val_move rfl) rfl rfl rfl ?_)
        refine gl_cons (gs_val (val_extract rfl rfl) rfl rfl rfl ?_)
        refine gl_cons (gs_val (val_extract rfl rfl) rfl rfl rfl ?_)
        refine gl_cons (gs_val (val_assign rfl) rfl rfl rfl ?_)
        refine gl_cons (gs_val (val_assign rfl) rfl rfl rfl ?_)
        refine gl_nil ?_
        refine gk_seq ?_
        refine gc_seq ?_
        refine gc_region ?_
        refine gl_cons (gs_val (val_loadA kag22 rfl (sees_mem (by repeat (first | exact .head _ | refine .tail _ ?_ | refine List.mem_append_right _ ?_))) rfl rfl) rfl rfl rfl ?_)
        refine gl_cons (gs_val (val_move rfl) rfl rfl rfl ?_)
        refine gl_cons (gs_val (val_cast (v := I64 v) (val_max2 rfl rfl) (congrArg I64 hv)) rfl rfl rfl ?_)
        refine gl_cons (gs_pure (enters kcall94 (.cons rfl (.cons rfl .nil))) (newC_no x v (.inr hv1)) rfl rfl rfl (fun _ _ => trivial) ?_)
        refine gl_cons (gs_val (val_move rfl) rfl rfl rfl ?_)
        refine gl_cons (gs_val (val_extract rfl rfl) rfl rfl rfl ?_)
        refine gl_cons (gs_val (val_extract rfl rfl) rfl rfl rfl ?_)
        refine gl_cons (gs_val (val_assign rfl) rfl rfl rfl ?_)
        refine gl_cons (gs_val (val_assign rfl) rfl rfl rfl ?_)
        refine gl_nil ?_
        refine gk_seq ?_
        refine gc_seq ?_
        refine gc_region ?_
        refine gl_cons (gs_val (val_move rfl) rfl rfl rfl ?_)
        refine gl_cons (gs_val (val_eqlNil kun123 rfl rfl) rfl rfl rfl ?_)
        refine gl_cons (gs_val (val_move rfl) rfl rfl rfl ?_)
        refine gl_cons (gs_val (val_move rfl) rfl rfl rfl ?_)
        refine gl_cons (gs_val (val_yes (val_eql rfl rfl) rfl) rfl rfl rfl ?_)
        refine gl_cons (gs_val (val_pick_t rfl rfl) rfl rfl rfl ?_)
        refine gl_cons (gs_val (val_move rfl) rfl rfl rfl ?_)
        refine gl_cons (gs_val (val_move rfl) rfl rfl rfl ?_)
        refine gl_cons (gs_val (val_eqlNil kun123 rfl rfl) rfl rfl rfl ?_)
        refine gl_cons (gs_val (val_pick_t rfl rfl) rfl rfl rfl ?_)
        refine gl_cons (gs_val (val_move rfl) rfl rfl rfl ?_)
        refine gl_cons (gs_val (val_move rfl) rfl rfl rfl ?_)
        refine gl_cons (gs_val (val_yes (val_eql rfl rfl) rfl) rfl rfl rfl ?_)
        refine gl_cons (gs_val (val_pick_t rfl rfl) rfl rfl rfl ?_)
        refine gl_cons (gs_val (val_assign rfl) rfl rfl rfl ?_)
        refine gl_nil ?_
        refine gk_seq ?_
        refine gc_ret ?_
        refine gk_ret rfl (resv_tmp rfl .nil) (List.nil_sublist _) ?_
        exact ⟨rfl, rfl⟩

/-- baize/baizelaw18.ChanceFulfils -/
theorem chanceFulfils_walk (x o : BitVec 64) (y : UInt8) : Pure Try.prog 33 ([Dig x, Dig o, U8 y]).toArray (fun _ => True) (.bool true) := by
  obtain ⟨p', hp', hp'l⟩ := emod_nat (y.toNat : Int) 60 (by decide)
  obtain ⟨p, hp, hp1, hp2⟩ : ∃ p : Nat, (1 : Int) + (p' : Int) = (p : Int) ∧ 1 ≤ p ∧ p ≤ 60 := ⟨p' + 1, by omega, by omega, by omega⟩
  have hyl := y.toNat_lt
  refine spec_walk (n := 133) Try.func33 rfl rfl rfl (fun w0 hpre => ?_)
  refine gc_seq ?_
  refine gc_region ?_
  refine gl_cons (gs_box rfl rfl rfl rfl (fun b3 => ?_))
  refine gl_cons (gs_box rfl rfl rfl rfl (fun b4 => ?_))
  refine gl_cons (gs_val (val_assign rfl) rfl rfl rfl ?_)
  refine gl_nil ?_
  refine gk_seq ?_
  refine gc_seq ?_
  refine gc_region ?_
  refine gl_cons (gs_val (val_move rfl) rfl rfl rfl ?_)
  refine gl_cons (gs_val (val_convI rfl kis5 kun3 (by omega)) rfl rfl rfl ?_)
  refine gl_cons (gs_val (val_cast (v := I64 (p' : Int)) (val_remI rfl rfl (by omega)) (congrArg I64 hp')) rfl rfl rfl ?_)
  refine gl_cons (gs_val (val_cast (v := I64 (p : Int)) (val_addI rfl rfl (by omega)) (congrArg I64 hp)) rfl rfl rfl ?_)
  refine gl_cons (gs_val (val_assign rfl) rfl rfl rfl ?_)
  refine gl_nil ?_
  refine gk_seq ?_
  refine gc_seq ?_
  refine gc_region ?_
  refine gl_cons (gs_val (val_loadA kag22 rfl (sees_mem (by repeat (first | exact .head _ | refine .tail _ ?_ | refine List.mem_append_right _ ?_))) rfl rfl) rfl rfl rfl ?_)
  refine gl_cons (gs_val (val_move rfl) rfl rfl rfl ?_)
  refine gl_cons (gs_makes (enters kcall94 (.cons rfl (.cons rfl .nil))) (newC_ok x p hp1 (by omega)) rfl rfl rfl (fun _ _ => trivial) (fun bc _ => ?_))
  refine gl_cons (gs_val (val_move rfl) rfl rfl rfl ?_)
  refine gl_cons (gs_val (val_extract rfl rfl) rfl rfl rfl ?_)
  refine gl_cons (gs_val (val_extract rfl rfl) rfl rfl rfl ?_)
  refine gl_cons (gs_val (val_assign rfl) rfl rfl rfl ?_)
  refine gl_cons (gs_val (val_assign rfl) rfl rfl rfl ?_)
  refine gl_nil ?_
  refine gk_seq ?_
  refine gc_seq ?_
  refine gc_seq ?_
  refine gc_region ?_
  refine gl_cons (gs_pure (enters kcall85 .nil) (known18_spec) rfl rfl rfl (fun _ _ => trivial) ?_)
  refine gl_cons (gs_val (val_not rfl) rfl rfl rfl ?_)
  refine gl_cons (gs_val (val_move rfl) rfl rfl rfl ?_)
  refine gl_cons (gs_val (val_move rfl) rfl rfl rfl ?_)
  refine gl_cons (gs_val (val_eqlNil kun123 rfl rfl) rfl rfl rfl ?_)
  refine gl_cons (gs_val (val_pick_f rfl rfl) rfl rfl rfl ?_)
  refine gl_cons (gs_val (val_move rfl) rfl rfl rfl ?_)
  refine gl_cons (gs_val (val_move rfl) rfl rfl rfl ?_)
  refine gl_cons (gs_val (val_no (val_neq rfl rfl) (fun h => h rfl)) rfl rfl rfl ?_)
  refine gl_cons (gs_val (val_pick_f rfl rfl) rfl rfl rfl ?_)
  refine gl_cons (gs_val (val_move rfl) rfl rfl rfl ?_)
  refine gl_cons (gs_val (val_move rfl) rfl rfl rfl ?_)
  refine gl_cons (gs_pure (enters kcall101 (.cons rfl .nil)) (tip_spec bc x p p) rfl rfl rfl (row_of_sees (sees_all (by repeat (first | exact .head _ | refine .tail _ ?_ | refine List.mem_append_right _ ?_)))) ?_)
  refine gl_cons (gs_val (val_move rfl) rfl rfl rfl ?_)
  refine gl_cons (gs_pure (enters kcall102 (.cons rfl .nil)) (anchor_spec bc x p p) rfl rfl rfl (row_of_sees (sees_all (by repeat (first | exact .head _ | refine .tail _ ?_ | refine List.mem_append_right _ ?_)))) ?_)
  refine gl_cons (gs_val (val_no (val_neqDig kdig24 rfl rfl rfl rfl) (fun h => h rfl)) rfl rfl rfl ?_)
  refine gl_cons (gs_val (val_pick_f rfl rfl) rfl rfl rfl ?_)
  refine gl_nil ?_
  refine gk_seq ?_
  refine gc_false rfl ?_
  refine gc_skip ?_
  refine gk_seq ?_
  refine gc_seq ?_
  refine gc_seq ?_
  refine gc_region ?_
  refine gl_cons (gs_val (val_move rfl) rfl rfl rfl ?_)
  refine gl_cons (gs_val (val_move rfl) rfl rfl rfl ?_)
  refine gl_nil ?_
  refine gk_seq ?_
  refine gc_block ?_
  refine gc_loop (σ := Nat × Nat) (I := fun v => v.1 + v.2 = p) (μ := fun v => p - v.1) (EI := fun v => [(46, I64 (v.1 : Int)), (3, .pointer (some ⟨b3, 0, none⟩)), (4, .pointer (some ⟨b4, 0, none⟩)), (7, I64 (p : Int)), (8, .pointer (some ⟨bc, 0, none⟩)), (45, I64 (p : Int))]) (LI := fun v => [⟨bc, .cells (chL x p v.2).toArray 166 (0, 0)⟩, ⟨b4, .cells (digL o).toArray 22 (0, 0)⟩, ⟨b3, .cells (digL x).toArray 22 (0, 0)⟩]) (0, p) ?_ ?_ ?_ ?_
  · exact Nat.zero_add _
  · exact (.cons rfl (.cons rfl (.cons rfl (.cons rfl (.cons rfl (.cons rfl .nil))))))
  · exact fun _ h => h
  · intro ⟨k, a⟩ hka
    dsimp only
    have hka : k + a = p := hka
    refine gc_seq ?_
    refine gc_region ?_
    refine gl_cons (gs_val (val_lss rfl rfl) rfl rfl rfl ?_)
    refine gl_nil ?_
    refine gk_seq ?_
    refine gc_seq ?_
    refine gc_if rfl (fun hk => ?_) (fun hk => ?_)
    · have hk : k < p := by omega
      obtain ⟨j, rfl⟩ : ∃ j, a = j + 1 := ⟨a - 1, by omega⟩
      have hT : hChainI x ((j + 1 : Nat) : Int) = hChain x (j + 1) := chainI_nat x (j + 1) (by omega)
      have hans := ans_of x (hChain x (j + 1)) j p (by omega) rfl
      refine gc_skip ?_
      refine gk_seq ?_
      refine gc_seq ?_
      refine gc_block ?_
      refine gc_seq ?_
      refine gc_region ?_
      refine gl_cons (gs_val (val_move rfl) rfl rfl rfl ?_)
      refine gl_cons (gs_val (val_assign rfl) rfl rfl rfl ?_)
      refine gl_nil ?_
      refine gk_seq ?_
      refine gc_seq ?_
      refine gc_region ?_
      refine gl_cons (gs_val (val_move rfl) rfl rfl rfl ?_)
      refine gl_cons (gs_pure (enters kcall101 (.cons rfl .nil)) (tip_spec bc x p (j + 1)) rfl rfl rfl (row_of_sees (sees_all (by repeat (first | exact .head _ | refine .tail _ ?_ | refine List.mem_append_right _ ?_)))) ?_)
      refine gl_cons (gs_alloc kze24 rfl rfl rfl (fun b11 => ?_))
      refine gl_cons (gs_store ksz24 rfl rfl rfl rfl rfl rfl (by first | exact .head | exact .tail .head | exact .tail (.tail .head) | exact .tail (.tail (.tail .head)) | exact .tail (.tail (.tail (.tail .head))) | exact .tail (.tail (.tail (.tail (.tail .head))))) (by simp) (by first | ((with_reducible refine splice_all _ _ ?_); simp; done) | (simp only [splice, stL, digL, List.take_succ_cons, List.take_zero, List.drop_succ_cons, List.drop_zero, List.length_cons, List.length_nil, Nat.reduceAdd, Nat.reduceMul, Nat.zero_add, Nat.zero_mul, List.cons_append, List.nil_append]; exact rfl)) ?_)
      refine gl_nil ?_
      refine gk_seq ?_
      refine gc_seq ?_
      refine gc_region ?_
      refine gl_cons (gs_val (val_move rfl) rfl rfl rfl ?_)
      refine gl_cons (gs_val (val_loadA kag24 rfl (sees_mem (by repeat (first | exact .head _ | refine .tail _ ?_ | refine List.mem_append_right _ ?_))) rfl rfl) rfl rfl rfl ?_)
      refine gl_cons (gs_pure (enters kcall100 (.cons rfl (.cons rfl .nil))) (answer_spec bc x p (j + 1) _ (by omega)) rfl rfl rfl (row_of_sees (sees_all (by repeat (first | exact .head _ | refine .tail _ ?_ | refine List.mem_append_right _ ?_)))) ?_)
      refine gl_cons (gs_val (val_move rfl) rfl rfl rfl ?_)
      refine gl_cons (gs_val (val_extract rfl rfl) rfl rfl rfl ?_)
      refine gl_cons (gs_val (val_extract rfl rfl) rfl rfl rfl ?_)
      refine gl_cons (gs_alloc kze24 rfl rfl rfl (fun b12 => ?_))
      refine gl_cons (gs_store ksz24 rfl rfl rfl rfl rfl rfl (by first | exact .head | exact .tail .head | exact .tail (.tail .head) | exact .tail (.tail (.tail .head)) | exact .tail (.tail (.tail (.tail .head))) | exact .tail (.tail (.tail (.tail (.tail .head))))) (by simp) (by first | ((with_reducible refine splice_all _ _ ?_); simp; done) | (simp only [splice, stL, digL, List.take_succ_cons, List.take_zero, List.drop_succ_cons, List.drop_zero, List.length_cons, List.length_nil, Nat.reduceAdd, Nat.reduceMul, Nat.zero_add, Nat.zero_mul, List.cons_append, List.nil_append]; exact rfl)) ?_)
      refine gl_cons (gs_val (val_assign rfl) rfl rfl rfl ?_)
      refine gl_nil ?_
      refine gk_seq ?_
      refine gc_seq ?_
      refine gc_region ?_
      refine gl_cons (gs_val (val_move rfl) rfl rfl rfl ?_)
      refine gl_cons (gs_mods (enters kcall97 (.cons rfl .nil)) (show_spec bc x p (j + 1) (by omega)) rfl rfl rfl (by first | exact .head | exact .tail .head | exact .tail (.tail .head) | exact .tail (.tail (.tail .head)) | exact .tail (.tail (.tail (.tail .head))) | exact .tail (.tail (.tail (.tail (.tail .head))))) (fun _ _ => trivial) ?_)
      refine gl_cons (gs_val (val_move rfl) rfl rfl rfl ?_)
      refine gl_cons (gs_val (val_extract rfl rfl) rfl rfl rfl ?_)
      refine gl_cons (gs_val (val_extract rfl rfl) rfl rfl rfl ?_)
      refine gl_cons (gs_alloc kze24 rfl rfl rfl (fun b14 => ?_))
      refine gl_cons (gs_store ksz24 rfl rfl rfl rfl rfl rfl (by first | exact .head | exact .tail .head | exact .tail (.tail .head) | exact .tail (.tail (.tail .head)) | exact .tail (.tail (.tail (.tail .head))) | exact .tail (.tail (.tail (.tail (.tail .head))))) (by simp) (by first | ((with_reducible refine splice_all _ _ ?_); simp; done) | (simp only [splice, stL, digL, List.take_succ_cons, List.take_zero, List.drop_succ_cons, List.drop_zero, List.length_cons, List.length_nil, Nat.reduceAdd, Nat.reduceMul, Nat.zero_add, Nat.zero_mul, List.cons_append, List.nil_append]; exact rfl)) ?_)
      refine gl_cons (gs_val (val_assign rfl) rfl rfl rfl ?_)
      refine gl_nil ?_
      refine gk_seq ?_
      refine gc_seq ?_
      refine gc_seq ?_
      refine gc_drawAll kmixed (by kernel_rfl) ?_
      refine gq_val (val_move rfl) rfl rfl rfl ?_
      refine gq_val (val_no (val_neq rfl rfl) (fun h => h (by rw [hT]; exact hans.1))) rfl rfl rfl ?_
      refine gq_val (val_move rfl) rfl rfl rfl ?_
      refine gq_val (val_move rfl) rfl rfl rfl ?_
      refine gq_val (val_no (val_neq rfl rfl) (fun h => h (if_neg (by omega)))) rfl rfl rfl ?_
      refine gq_val (val_pick_f rfl rfl) rfl rfl rfl ?_
      refine gq_val (val_move rfl) rfl rfl rfl ?_
      refine gq_val (val_loadA kag24 rfl (sees_mem (by repeat (first | exact .head _ | refine .tail _ ?_ | refine List.mem_append_right _ ?_))) rfl rfl) rfl rfl rfl ?_
      refine gq_val (val_loadA kag24 rfl (sees_mem (by repeat (first | exact .head _ | refine .tail _ ?_ | refine List.mem_append_right _ ?_))) rfl rfl) rfl rfl rfl ?_
      refine gq_pure (enters kcall103 (.cons rfl (.cons rfl .nil))) (fulfils_spec _ _) rfl rfl rfl (fun _ _ => trivial) ?_
      refine gq_val (val_no (val_not_dec rfl) (fun h => h (by rw [hT, shW_succ]; exact (hChain_succ x j).symm))) rfl rfl rfl ?_
      refine gq_val (val_pick_f rfl rfl) rfl rfl rfl ?_
      refine gq_val (val_move rfl) rfl rfl rfl ?_
      refine gq_val (val_loadA kag24 rfl (sees_mem (by repeat (first | exact .head _ | refine .tail _ ?_ | refine List.mem_append_right _ ?_))) rfl rfl) rfl rfl rfl ?_
      refine gq_val (val_loadA kag24 rfl (sees_mem (by repeat (first | exact .head _ | refine .tail _ ?_ | refine List.mem_append_right _ ?_))) rfl rfl) rfl rfl rfl ?_
      refine gq_pure (enters kcall103 (.cons rfl (.cons rfl .nil))) (fulfils_spec _ _) rfl rfl rfl (fun _ _ => trivial) ?_
      refine gq_val (val_no (val_not_dec rfl) (fun h => h (by rw [hT]; exact hans.2))) rfl rfl rfl ?_
      refine gq_val (val_pick_f rfl rfl) rfl rfl rfl ?_
      refine gq_val (val_move rfl) rfl rfl rfl ?_
      refine gq_val (val_move rfl) rfl rfl rfl ?_
      refine gq_pure (enters kcall101 (.cons rfl .nil)) (tip_spec bc x p (j + 1 - 1)) rfl rfl rfl (row_of_sees (sees_all (by repeat (first | exact .head _ | refine .tail _ ?_ | refine List.mem_append_right _ ?_)))) ?_
      refine gq_val (val_loadA kag24 rfl (sees_mem (by repeat (first | exact .head _ | refine .tail _ ?_ | refine List.mem_append_right _ ?_))) rfl rfl) rfl rfl rfl ?_
      refine gq_val (val_no (val_neqDig kdig24 rfl rfl rfl rfl) (fun h => h (by rw [shW_succ]; exact chainI_nat x j (by omega)))) rfl rfl rfl ?_
      refine gq_val (val_pick_f rfl rfl) rfl rfl rfl ?_
      refine gq_val (val_move rfl) rfl rfl rfl ?_
      refine gq_val (val_move rfl) rfl rfl rfl ?_
      refine gq_pure (enters kcall104 (.cons rfl .nil)) (left_spec bc x p (j + 1 - 1)) rfl rfl rfl (row_of_sees (sees_all (by repeat (first | exact .head _ | refine .tail _ ?_ | refine List.mem_append_right _ ?_)))) ?_
      refine gq_val (val_move rfl) rfl rfl rfl ?_
      refine gq_val (val_subI rfl rfl (by omega)) rfl rfl rfl ?_
      refine gq_val (val_move rfl) rfl rfl rfl ?_
      refine gq_val (val_subI rfl rfl (by omega)) rfl rfl rfl ?_
      refine gq_val (val_no (val_neq rfl rfl) (fun h => h (by omega))) rfl rfl rfl ?_
      refine gq_val (val_pick_f rfl rfl) rfl rfl rfl ?_
      refine gq_nil ?_
      refine gl_nil ?_
      refine gk_seq ?_
      refine gc_false rfl ?_
      refine gc_skip ?_
      refine gk_seq ?_
      refine gc_seq ?_
      refine gc_drawAll kmixed (by kernel_rfl) ?_
      refine gq_val (val_loadA kag24 rfl (sees_mem (by repeat (first | exact .head _ | refine .tail _ ?_ | refine List.mem_append_right _ ?_))) rfl rfl) rfl rfl rfl ?_
      refine gq_val (val_loadA kag22 rfl (sees_mem (by repeat (first | exact .head _ | refine .tail _ ?_ | refine List.mem_append_right _ ?_))) rfl rfl) rfl rfl rfl ?_
      refine gq_pure (enters kcall103 (.cons rfl (.cons rfl .nil))) (fulfils_spec _ _) rfl rfl rfl (fun _ _ => trivial) ?_
      refine gq_val (val_loadA kag22 rfl (sees_mem (by repeat (first | exact .head _ | refine .tail _ ?_ | refine List.mem_append_right _ ?_))) rfl rfl) rfl rfl rfl ?_
      refine gq_pure (enters kcall42 (.cons rfl .nil)) (one_spec _) rfl rfl rfl (fun _ _ => trivial) ?_
      refine gq_val (val_loadA kag24 rfl (sees_mem (by repeat (first | exact .head _ | refine .tail _ ?_ | refine List.mem_append_right _ ?_))) rfl rfl) rfl rfl rfl ?_
      refine gq_val (val_eqlDig kdig24 rfl rfl rfl rfl) rfl rfl rfl ?_
      refine gq_val (val_cast (v := .bool false) (val_neqB kun4 rfl rfl) (congrArg Value.bool (bne_self_eq_false _))) rfl rfl rfl ?_
      refine gq_nil ?_
      refine gl_nil ?_
      refine gk_seq ?_
      refine gc_false rfl ?_
      refine gc_skip ?_
      refine gk_block ?_
      refine gk_seq ?_
      refine gc_region ?_
      refine gl_cons (gs_val (val_addI rfl rfl (by omega)) rfl rfl rfl ?_)
      refine gl_cons (gs_val (val_move rfl) rfl rfl rfl ?_)
      refine gl_nil ?_
      refine gk_again (k + 1, j) ?_ ?_ ?_ ?_
      · show k + 1 + j = p; omega
      · show p - (k + 1) < p - k; omega
      · exact (.cons (rfl) (.cons (rfl) (.cons (rfl) (.cons (rfl) (.cons (rfl) (.cons (rfl) .nil))))))
      · exact fun _ h => h.sub (.cons _ (.cons _ (.cons _ (List.Sublist.refl _))))
    · have ha : a = 0 := by omega
      subst ha
      refine gc_exit ?_
      refine gk_seq_exit ?_
      refine gk_loop_exit ?_
      refine gk_block_exit ?_
      refine gk_seq ?_
      refine gc_seq ?_
      refine gc_region ?_
      refine gl_cons (gs_val (val_move rfl) rfl rfl rfl ?_)
      refine gl_cons (gs_mods (enters kcall97 (.cons rfl .nil)) (show_spec bc x p 0 (by omega)) rfl rfl rfl (by first | exact .head | exact .tail .head | exact .tail (.tail .head) | exact .tail (.tail (.tail .head)) | exact .tail (.tail (.tail (.tail .head))) | exact .tail (.tail (.tail (.tail (.tail .head))))) (fun _ _ => trivial) ?_)
      refine gl_cons (gs_val (val_move rfl) rfl rfl rfl ?_)
      refine gl_cons (gs_val (val_extract rfl rfl) rfl rfl rfl ?_)
      refine gl_cons (gs_val (val_extract rfl rfl) rfl rfl rfl ?_)
      refine gl_cons (gs_alloc kze24 rfl rfl rfl (fun b16 => ?_))
      refine gl_cons (gs_store ksz24 rfl rfl rfl rfl rfl rfl (by first | exact .head | exact .tail .head | exact .tail (.tail .head) | exact .tail (.tail (.tail .head)) | exact .tail (.tail (.tail (.tail .head))) | exact .tail (.tail (.tail (.tail (.tail .head))))) (by simp) (by first | ((with_reducible refine splice_all _ _ ?_); simp; done) | (simp only [splice, stL, digL, List.take_succ_cons, List.take_zero, List.drop_succ_cons, List.drop_zero, List.length_cons, List.length_nil, Nat.reduceAdd, Nat.reduceMul, Nat.zero_add, Nat.zero_mul, List.cons_append, List.nil_append]; exact rfl)) ?_)
      refine gl_cons (gs_val (val_assign rfl) rfl rfl rfl ?_)
      refine gl_nil ?_
      refine gk_seq ?_
      refine gc_seq ?_
      refine gc_drawAll kmixed (by kernel_rfl) ?_
      refine gq_val (val_move rfl) rfl rfl rfl ?_
      refine gq_pure (enters kcall101 (.cons rfl .nil)) (tip_spec bc x p (0 - 1)) rfl rfl rfl (row_of_sees (sees_all (by repeat (first | exact .head _ | refine .tail _ ?_ | refine List.mem_append_right _ ?_)))) ?_
      refine gq_val (val_loadA kag22 rfl (sees_mem (by repeat (first | exact .head _ | refine .tail _ ?_ | refine List.mem_append_right _ ?_))) rfl rfl) rfl rfl rfl ?_
      refine gq_val (val_yes (val_eqlDig kdig22 rfl rfl rfl rfl) ((chainI_nat x 0 (by omega)).trans (hChain_zero x))) rfl rfl rfl ?_
      refine gq_val (val_move rfl) rfl rfl rfl ?_
      refine gq_val (val_move rfl) rfl rfl rfl ?_
      refine gq_val (val_yes (val_eql rfl rfl) (if_pos rfl)) rfl rfl rfl ?_
      refine gq_val (val_pick_t rfl rfl) rfl rfl rfl ?_
      refine gq_val (val_move rfl) rfl rfl rfl ?_
      refine gq_val (val_loadA kag24 rfl (sees_mem (by repeat (first | exact .head _ | refine .tail _ ?_ | refine List.mem_append_right _ ?_))) rfl rfl) rfl rfl rfl ?_
      refine gq_val (val_buildZ kze24 rfl kar24) rfl rfl rfl ?_
      refine gq_val (val_yes (val_eqlDig (j := 0#64) kdig24 rfl rfl rfl rfl) (if_pos rfl)) rfl rfl rfl ?_
      refine gq_val (val_pick_t rfl rfl) rfl rfl rfl ?_
      refine gq_val (val_move rfl) rfl rfl rfl ?_
      refine gq_val (val_move rfl) rfl rfl rfl ?_
      refine gq_pure (enters kcall104 (.cons rfl .nil)) (left_spec bc x p (0 - 1)) rfl rfl rfl (row_of_sees (sees_all (by repeat (first | exact .head _ | refine .tail _ ?_ | refine List.mem_append_right _ ?_)))) ?_
      refine gq_val (val_yes (val_eql rfl rfl) rfl) rfl rfl rfl ?_
      refine gq_val (val_pick_t rfl rfl) rfl rfl rfl ?_
      refine gq_val (val_move rfl) rfl rfl rfl ?_
      refine gq_val (val_move rfl) rfl rfl rfl ?_
      refine gq_pure (enters kcall101 (.cons rfl .nil)) (tip_spec bc x p (0 - 1)) rfl rfl rfl (row_of_sees (sees_all (by repeat (first | exact .head _ | refine .tail _ ?_ | refine List.mem_append_right _ ?_)))) ?_
      refine gq_val (val_loadA kag22 rfl (sees_mem (by repeat (first | exact .head _ | refine .tail _ ?_ | refine List.mem_append_right _ ?_))) rfl rfl) rfl rfl rfl ?_
      refine gq_val (val_yes (val_eqlDig kdig22 rfl rfl rfl rfl) ((chainI_nat x 0 (by omega)).trans (hChain_zero x))) rfl rfl rfl ?_
      refine gq_val (val_pick_t rfl rfl) rfl rfl rfl ?_
      refine gq_val (val_assign rfl) rfl rfl rfl ?_
      refine gq_nil ?_
      refine gl_nil ?_
      refine gk_seq ?_
      refine gc_ret ?_
      refine gk_ret rfl (resv_tmp rfl .nil) (List.nil_sublist _) ?_
      exact ⟨rfl, rfl⟩

/-- baize/baizelaw18.ChanceSame -/
theorem chanceSame_walk (x o : BitVec 64) (y sh mo : UInt8) : Pure Try.prog 34 ([Dig x, Dig o, U8 y, U8 sh, U8 mo]).toArray (fun _ => True) (.bool true) := by
  obtain ⟨p', hp', hp'l⟩ := emod_nat (y.toNat : Int) 30 (by decide)
  obtain ⟨p, hp, hp1, hp2⟩ : ∃ p : Nat, (2 : Int) + (p' : Int) = (p : Int) ∧ 2 ≤ p ∧ p ≤ 31 := ⟨p' + 2, by omega, by omega, by omega⟩
  have hyl := y.toNat_lt
  have hsl := sh.toNat_lt
  have hml := mo.toNat_lt
  obtain ⟨q, hq, hql⟩ := emod_nat (sh.toNat : Int) p (by omega)
  obtain ⟨u, hu, hul⟩ := emod_nat (mo.toNat : Int) 5 (by decide)
  refine spec_walk (n := 191) Try.func34 rfl rfl rfl (fun w0 hpre => ?_)
  refine gc_seq ?_
  refine gc_region ?_
  refine gl_cons (gs_box rfl rfl rfl rfl (fun b5 => ?_))
  refine gl_cons (gs_box rfl rfl rfl rfl (fun b6 => ?_))
  refine gl_cons (gs_val (val_assign rfl) rfl rfl rfl ?_)
  refine gl_nil ?_
  refine gk_seq ?_
  refine gc_seq ?_
  refine gc_region ?_
  refine gl_cons (gs_val (val_move rfl) rfl rfl rfl ?_)
  refine gl_cons (gs_val (val_convI rfl kis5 kun3 (by omega)) rfl rfl rfl ?_)
  refine gl_cons (gs_val (val_cast (v := I64 (p' : Int)) (val_remI rfl rfl (by omega)) (congrArg I64 hp')) rfl rfl rfl ?_)
  refine gl_cons (gs_val (val_cast (v := I64 (p : Int)) (val_addI rfl rfl (by omega)) (congrArg I64 hp)) rfl rfl rfl ?_)
  refine gl_cons (gs_val (val_assign rfl) rfl rfl rfl ?_)
  refine gl_nil ?_
  refine gk_seq ?_
  refine gc_seq ?_
  refine gc_region ?_
  refine gl_cons (gs_val (val_loadA kag22 rfl (sees_mem (by repeat (first | exact .head _ | refine .tail _ ?_ | refine List.mem_append_right _ ?_))) rfl rfl) rfl rfl rfl ?_)
  refine gl_cons (gs_val (val_move rfl) rfl rfl rfl ?_)
  refine gl_cons (gs_makes (enters kcall94 (.cons rfl (.cons rfl .nil))) (newC_ok x p (by omega) (by omega)) rfl rfl rfl (fun _ _ => trivial) (fun bx _ => ?_))
  refine gl_cons (gs_val (val_move rfl) rfl rfl rfl ?_)
  refine gl_cons (gs_val (val_extract rfl rfl) rfl rfl rfl ?_)
  refine gl_cons (gs_val (val_extract rfl rfl) rfl rfl rfl ?_)
  refine gl_cons (gs_val (val_assign rfl) rfl rfl rfl ?_)
  refine gl_cons (gs_val (val_assign rfl) rfl rfl rfl ?_)
  refine gl_nil ?_
  refine gk_seq ?_
  refine gc_seq ?_
  refine gc_region ?_
  refine gl_cons (gs_val (val_loadA kag22 rfl (sees_mem (by repeat (first | exact .head _ | refine .tail _ ?_ | refine List.mem_append_right _ ?_))) rfl rfl) rfl rfl rfl ?_)
  refine gl_cons (gs_val (val_move rfl) rfl rfl rfl ?_)
  refine gl_cons (gs_makes (enters kcall94 (.cons rfl (.cons rfl .nil))) (newC_ok o p (by omega) (by omega)) rfl rfl rfl (fun _ _ => trivial) (fun by' _ => ?_))
  refine gl_cons (gs_val (val_move rfl) rfl rfl rfl ?_)
  refine gl_cons (gs_val (val_extract rfl rfl) rfl rfl rfl ?_)
  refine gl_cons (gs_val (val_extract rfl rfl) rfl rfl rfl ?_)
  refine gl_cons (gs_val (val_assign rfl) rfl rfl rfl ?_)
  refine gl_cons (gs_val (val_assign rfl) rfl rfl rfl ?_)
  refine gl_nil ?_
  refine gk_seq ?_
  refine gc_seq ?_
  refine gc_region ?_
  refine gl_cons (gs_val (val_loadA kag22 rfl (sees_mem (by repeat (first | exact .head _ | refine .tail _ ?_ | refine List.mem_append_right _ ?_))) rfl rfl) rfl rfl rfl ?_)
  refine gl_cons (gs_val (val_move rfl) rfl rfl rfl ?_)
  refine gl_cons (gs_val (val_cast (v := I64 ((p + 1 : Nat) : Int)) (val_addI rfl rfl (by omega)) rfl) rfl rfl rfl ?_)
  refine gl_cons (gs_makes (enters kcall94 (.cons rfl (.cons rfl .nil))) (newC_ok x (p + 1) (by omega) (by omega)) rfl rfl rfl (fun _ _ => trivial) (fun bz _ => ?_))
  refine gl_cons (gs_val (val_move rfl) rfl rfl rfl ?_)
  refine gl_cons (gs_val (val_extract rfl rfl) rfl rfl rfl ?_)
  refine gl_cons (gs_val (val_extract rfl rfl) rfl rfl rfl ?_)
  refine gl_cons (gs_val (val_assign rfl) rfl rfl rfl ?_)
  refine gl_cons (gs_val (val_assign rfl) rfl rfl rfl ?_)
  refine gl_nil ?_
  refine gk_seq ?_
  refine gc_seq ?_
  refine gc_seq ?_
  refine gc_region ?_
  refine gl_cons (gs_pure (enters kcall85 .nil) (known18_spec) rfl rfl rfl (fun _ _ => trivial) ?_)
  refine gl_cons (gs_val (val_not rfl) rfl rfl rfl ?_)
  refine gl_cons (gs_val (val_move rfl) rfl rfl rfl ?_)
  refine gl_cons (gs_val (val_move rfl) rfl rfl rfl ?_)
  refine gl_cons (gs_val (val_eqlNil kun123 rfl rfl) rfl rfl rfl ?_)
  refine gl_cons (gs_val (val_pick_f rfl rfl) rfl rfl rfl ?_)
  refine gl_cons (gs_val (val_move rfl) rfl rfl rfl ?_)
  refine gl_cons (gs_val (val_move rfl) rfl rfl rfl ?_)
  refine gl_cons (gs_val (val_eqlNil kun123 rfl rfl) rfl rfl rfl ?_)
  refine gl_cons (gs_val (val_pick_f rfl rfl) rfl rfl rfl ?_)
  refine gl_cons (gs_val (val_move rfl) rfl rfl rfl ?_)
  refine gl_cons (gs_val (val_move rfl) rfl rfl rfl ?_)
  refine gl_cons (gs_val (val_eqlNil kun123 rfl rfl) rfl rfl rfl ?_)
  refine gl_cons (gs_val (val_pick_f rfl rfl) rfl rfl rfl ?_)
  refine gl_nil ?_
  refine gk_seq ?_
  refine gc_false rfl ?_
  refine gc_skip ?_
  refine gk_seq ?_
  refine gc_seq ?_
  refine gc_region ?_
  refine gl_cons (gs_val (val_move rfl) rfl rfl rfl ?_)
  refine gl_cons (gs_val (val_convI rfl kis5 kun3 (by omega)) rfl rfl rfl ?_)
  refine gl_cons (gs_val (val_move rfl) rfl rfl rfl ?_)
  refine gl_cons (gs_val (val_cast (v := I64 (q : Int)) (val_remI rfl rfl (by omega)) (congrArg I64 hq)) rfl rfl rfl ?_)
  refine gl_cons (gs_val (val_assign rfl) rfl rfl rfl ?_)
  refine gl_nil ?_
  refine gk_seq ?_
  refine gc_seq ?_
  refine gc_seq ?_
  refine gc_region ?_
  refine gl_cons (gs_val (val_move rfl) rfl rfl rfl ?_)
  refine gl_cons (gs_val (val_move rfl) rfl rfl rfl ?_)
  refine gl_nil ?_
  refine gk_seq ?_
  refine gc_block ?_
  refine gc_loop (σ := Nat) (I := fun k => k ≤ q) (μ := fun k => q - k) (EI := fun k => [(67, I64 (k : Int)), (4, U8 mo), (5, .pointer (some ⟨b5, 0, none⟩)), (6, .pointer (some ⟨b6, 0, none⟩)), (10, .bool false), (11, I64 (p : Int)), (12, .pointer (some ⟨bx, 0, none⟩)), (14, .pointer (some ⟨by', 0, none⟩)), (16, .pointer (some ⟨bz, 0, none⟩)), (18, I64 (q : Int)), (66, I64 (q : Int))]) (LI := fun k => [⟨bz, .cells (chL x (p + 1) (p + 1 - k)).toArray 166 (0, 0)⟩, ⟨by', .cells (chL o p (p - k)).toArray 166 (0, 0)⟩, ⟨bx, .cells (chL x p (p - k)).toArray 166 (0, 0)⟩, ⟨b6, .cells (digL o).toArray 22 (0, 0)⟩, ⟨b5, .cells (digL x).toArray 22 (0, 0)⟩]) 0 ?_ ?_ ?_ ?_
  · exact Nat.zero_le _
  · exact (.cons rfl (.cons rfl (.cons rfl (.cons rfl (.cons rfl (.cons rfl (.cons rfl (.cons rfl (.cons rfl (.cons rfl (.cons rfl .nil)))))))))))
  · exact fun _ h => h
  · intro k hI
    have hI : k ≤ q := hI
    refine gc_seq ?_
    refine gc_region ?_
    refine gl_cons (gs_val (val_lss rfl rfl) rfl rfl rfl ?_)
    refine gl_nil ?_
    refine gk_seq ?_
    refine gc_seq ?_
    refine gc_if rfl (fun hk => ?_) (fun hk => ?_)
    · have hk : k < q := by omega
      refine gc_skip ?_
      refine gk_seq ?_
      refine gc_seq ?_
      refine gc_block ?_
      refine gc_seq ?_
      refine gc_region ?_
      refine gl_cons (gs_val (val_move rfl) rfl rfl rfl ?_)
      refine gl_cons (gs_mods (enters kcall97 (.cons rfl .nil)) (show_spec bx x p (p - k) (by omega)) rfl rfl rfl (by first | exact .head | exact .tail .head | exact .tail (.tail .head) | exact .tail (.tail (.tail .head)) | exact .tail (.tail (.tail (.tail .head))) | exact .tail (.tail (.tail (.tail (.tail .head))))) (fun _ _ => trivial) ?_)
      refine gl_nil ?_
      refine gk_seq ?_
      refine gc_seq ?_
      refine gc_region ?_
      refine gl_cons (gs_val (val_move rfl) rfl rfl rfl ?_)
      refine gl_cons (gs_mods (enters kcall97 (.cons rfl .nil)) (show_spec by' o p (p - k) (by omega)) rfl rfl rfl (by first | exact .head | exact .tail .head | exact .tail (.tail .head) | exact .tail (.tail (.tail .head)) | exact .tail (.tail (.tail (.tail .head))) | exact .tail (.tail (.tail (.tail (.tail .head))))) (fun _ _ => trivial) ?_)
      refine gl_nil ?_
      refine gk_seq ?_
      refine gc_region ?_
      refine gl_cons (gs_val (val_move rfl) rfl rfl rfl ?_)
      refine gl_cons (gs_mods (enters kcall97 (.cons rfl .nil)) (show_spec bz x (p + 1) (p + 1 - k) (by omega)) rfl rfl rfl (by first | exact .head | exact .tail .head | exact .tail (.tail .head) | exact .tail (.tail (.tail .head)) | exact .tail (.tail (.tail (.tail .head))) | exact .tail (.tail (.tail (.tail (.tail .head))))) (fun _ _ => trivial) ?_)
      refine gl_nil ?_
      refine gk_block ?_
      refine gk_seq ?_
      refine gc_region ?_
      refine gl_cons (gs_val (val_addI rfl rfl (by omega)) rfl rfl rfl ?_)
      refine gl_cons (gs_val (val_move rfl) rfl rfl rfl ?_)
      refine gl_nil ?_
      refine gk_again (k + 1) ?_ ?_ ?_ ?_
      · show k + 1 ≤ q; omega
      · show q - (k + 1) < q - k; omega
      · exact (.cons (rfl) (.cons (rfl) (.cons (rfl) (.cons (rfl) (.cons (rfl) (.cons (rfl) (.cons (rfl) (.cons (rfl) (.cons (rfl) (.cons (rfl) (.cons (rfl) .nil)))))))))))
      · exact fun _ h => h
    · have e : q = k := by omega
      subst e
      refine gc_exit ?_
      refine gk_seq_exit ?_
      refine gk_loop_exit ?_
      refine gk_block_exit ?_
      refine gk_seq ?_
      refine gc_seq ?_
      refine gc_seq ?_
      refine gc_drawAll kmixed (by kernel_rfl) ?_
      refine gq_val (val_move rfl) rfl rfl rfl ?_
      refine gq_val (val_move rfl) rfl rfl rfl ?_
      refine gq_pure (enters kcall105 (.cons rfl (.cons rfl .nil))) (sameC_spec bx by' x o p (p - q) p (p - q)) rfl rfl rfl (fun w hi => ⟨row_of_sees (sees_all (by repeat (first | exact .head _ | refine .tail _ ?_ | refine List.mem_append_right _ ?_))) w hi, row_of_sees (sees_all (by repeat (first | exact .head _ | refine .tail _ ?_ | refine List.mem_append_right _ ?_))) w hi⟩) ?_
      refine gq_val (val_loadA kag22 rfl (sees_mem (by repeat (first | exact .head _ | refine .tail _ ?_ | refine List.mem_append_right _ ?_))) rfl rfl) rfl rfl rfl ?_
      refine gq_val (val_loadA kag22 rfl (sees_mem (by repeat (first | exact .head _ | refine .tail _ ?_ | refine List.mem_append_right _ ?_))) rfl rfl) rfl rfl rfl ?_
      refine gq_val (val_eqlDig kdig22 rfl rfl rfl rfl) rfl rfl rfl ?_
      refine gq_val (val_cast (v := .bool false) (val_neqB kun4 rfl rfl) (congrArg Value.bool (same_dig x o p (p - q)))) rfl rfl rfl ?_
      refine gq_val (val_move rfl) rfl rfl rfl ?_
      refine gq_val (val_move rfl) rfl rfl rfl ?_
      refine gq_val (val_move rfl) rfl rfl rfl ?_
      refine gq_pure (enters kcall105 (.cons rfl (.cons rfl .nil))) (sameC_no bx bz x x p (p - q) (p + 1) (p + 1 - q) (by omega)) rfl rfl rfl (fun w hi => ⟨row_of_sees (sees_all (by repeat (first | exact .head _ | refine .tail _ ?_ | refine List.mem_append_right _ ?_))) w hi, row_of_sees (sees_all (by repeat (first | exact .head _ | refine .tail _ ?_ | refine List.mem_append_right _ ?_))) w hi⟩) ?_
      refine gq_val (val_pick_f rfl rfl) rfl rfl rfl ?_
      refine gq_val (val_move rfl) rfl rfl rfl ?_
      refine gq_val (val_move rfl) rfl rfl rfl ?_
      refine gq_val (val_move rfl) rfl rfl rfl ?_
      refine gq_pure (enters kcall105 (.cons rfl (.cons rfl .nil))) (sameC_yes bx bx x x p (p - q) p (p - q) ⟨rfl, rfl, rfl⟩) rfl rfl rfl (fun w hi => ⟨row_of_sees (sees_all (by repeat (first | exact .head _ | refine .tail _ ?_ | refine List.mem_append_right _ ?_))) w hi, row_of_sees (sees_all (by repeat (first | exact .head _ | refine .tail _ ?_ | refine List.mem_append_right _ ?_))) w hi⟩) ?_
      refine gq_val (val_not rfl) rfl rfl rfl ?_
      refine gq_val (val_pick_f rfl rfl) rfl rfl rfl ?_
      refine gq_val (val_move rfl) rfl rfl rfl ?_
      refine gq_val (val_move rfl) rfl rfl rfl ?_
      refine gq_pure (enters kcall105 (.cons rfl (.cons rfl .nil))) (sameC_cn bx) rfl rfl rfl (fun _ _ => trivial) ?_
      refine gq_val (val_pick_f rfl rfl) rfl rfl rfl ?_
      refine gq_nil ?_
      refine gl_nil ?_
      refine gk_seq ?_
      refine gc_false rfl ?_
      refine gc_skip ?_
      refine gk_seq ?_
      refine gc_seq ?_
      refine gc_region ?_
      refine gl_cons (gs_val (val_move rfl) rfl rfl rfl ?_)
      refine gl_cons (gs_makes (enters kcall106 (.cons rfl .nil)) (clone_spec bx x p (p - q)) rfl rfl rfl (row_of_sees (sees_all (by repeat (first | exact .head _ | refine .tail _ ?_ | refine List.mem_append_right _ ?_)))) (fun bc _ => ?_))
      refine gl_cons (gs_val (val_assign rfl) rfl rfl rfl ?_)
      refine gl_nil ?_
      refine gk_seq ?_
      refine gc_seq ?_
      refine gc_seq ?_
      refine gc_region ?_
      refine gl_cons (gs_val (val_move rfl) rfl rfl rfl ?_)
      refine gl_cons (gs_val (val_eqlNil kun123 rfl rfl) rfl rfl rfl ?_)
      refine gl_cons (gs_val (val_move rfl) rfl rfl rfl ?_)
      refine gl_cons (gs_val (val_move rfl) rfl rfl rfl ?_)
      refine gl_cons (gs_val (val_move rfl) rfl rfl rfl ?_)
      refine gl_cons (gs_pure (enters kcall105 (.cons rfl (.cons rfl .nil))) (sameC_yes bc bx x x p (p - q) p (p - q) ⟨rfl, rfl, rfl⟩) rfl rfl rfl (fun w hi => ⟨row_of_sees (sees_all (by repeat (first | exact .head _ | refine .tail _ ?_ | refine List.mem_append_right _ ?_))) w hi, row_of_sees (sees_all (by repeat (first | exact .head _ | refine .tail _ ?_ | refine List.mem_append_right _ ?_))) w hi⟩) ?_)
      refine gl_cons (gs_val (val_not rfl) rfl rfl rfl ?_)
      refine gl_cons (gs_val (val_pick_f rfl rfl) rfl rfl rfl ?_)
      refine gl_nil ?_
      refine gk_seq ?_
      refine gc_false rfl ?_
      refine gc_skip ?_
      refine gk_seq ?_
      refine gc_seq ?_
      refine gc_seq ?_
      refine gc_region ?_
      refine gl_cons (gs_val (val_move rfl) rfl rfl rfl ?_)
      refine gl_cons (gs_val (val_convI rfl kis5 kun3 (by omega)) rfl rfl rfl ?_)
      refine gl_cons (gs_val (val_cast (v := I64 (u : Int)) (val_remI rfl rfl (by omega)) (congrArg I64 hu)) rfl rfl rfl ?_)
      refine gl_cons (gs_val (val_move rfl) rfl rfl rfl ?_)
      refine gl_nil ?_
      refine gk_seq ?_
      refine gc_block ?_
      refine gc_loop (σ := Nat) (I := fun k => k ≤ u) (μ := fun k => u - k) (EI := fun k => [(111, I64 (k : Int)), (5, .pointer (some ⟨b5, 0, none⟩)), (6, .pointer (some ⟨b6, 0, none⟩)), (10, .bool false), (11, I64 (p : Int)), (12, .pointer (some ⟨bx, 0, none⟩)), (18, I64 (q : Int)), (19, .pointer (some ⟨bc, 0, none⟩)), (110, I64 (u : Int))]) (LI := fun k => [⟨bc, .cells (chL x p (p - q - k)).toArray 166 (0, 0)⟩, ⟨bz, .cells (chL x (p + 1) (p + 1 - q)).toArray 166 (0, 0)⟩, ⟨by', .cells (chL o p (p - q)).toArray 166 (0, 0)⟩, ⟨bx, .cells (chL x p (p - q)).toArray 166 (0, 0)⟩, ⟨b6, .cells (digL o).toArray 22 (0, 0)⟩, ⟨b5, .cells (digL x).toArray 22 (0, 0)⟩]) 0 ?_ ?_ ?_ ?_
      · exact Nat.zero_le _
      · exact (.cons rfl (.cons rfl (.cons rfl (.cons rfl (.cons rfl (.cons rfl (.cons rfl (.cons rfl (.cons rfl .nil)))))))))
      · exact fun _ h => h
      · intro k hI2
        have hI2 : k ≤ u := hI2
        refine gc_seq ?_
        refine gc_region ?_
        refine gl_cons (gs_val (val_lss rfl rfl) rfl rfl rfl ?_)
        refine gl_nil ?_
        refine gk_seq ?_
        refine gc_seq ?_
        refine gc_if rfl (fun hk2 => ?_) (fun hk2 => ?_)
        · have hk : k < u := by omega
          refine gc_skip ?_
          refine gk_seq ?_
          refine gc_seq ?_
          refine gc_block ?_
          refine gc_region ?_
          refine gl_cons (gs_val (val_move rfl) rfl rfl rfl ?_)
          refine gl_cons (gs_mods (enters kcall97 (.cons rfl .nil)) (show_spec bc x p (p - q - k) (by omega)) rfl rfl rfl (by first | exact .head | exact .tail .head | exact .tail (.tail .head) | exact .tail (.tail (.tail .head)) | exact .tail (.tail (.tail (.tail .head))) | exact .tail (.tail (.tail (.tail (.tail .head))))) (fun _ _ => trivial) ?_)
          refine gl_nil ?_
          refine gk_block ?_
          refine gk_seq ?_
          refine gc_region ?_
          refine gl_cons (gs_val (val_addI rfl rfl (by omega)) rfl rfl rfl ?_)
          refine gl_cons (gs_val (val_move rfl) rfl rfl rfl ?_)
          refine gl_nil ?_
          refine gk_again (k + 1) ?_ ?_ ?_ ?_
          · show k + 1 ≤ u; omega
          · show u - (k + 1) < u - k; omega
          · exact (.cons (rfl) (.cons (rfl) (.cons (rfl) (.cons (rfl) (.cons (rfl) (.cons (rfl) (.cons (rfl) (.cons (rfl) (.cons (rfl) .nil)))))))))
          · exact fun _ h => h
        · have e : u = k := by omega
          subst e
          refine gc_exit ?_
          refine gk_seq_exit ?_
          refine gk_loop_exit ?_
          refine gk_block_exit ?_
          refine gk_seq ?_
          refine gc_seq ?_
          refine gc_region ?_
          refine gl_cons (gs_val (val_assign rfl) rfl rfl rfl ?_)
          refine gl_nil ?_
          refine gk_seq ?_
          refine gc_seq ?_
          refine gc_region ?_
          refine gl_cons (gs_val (val_move rfl) rfl rfl rfl ?_)
          refine gl_cons (gs_pure (enters kcall97 (.cons rfl .nil)) (show_nil) rfl rfl rfl (fun _ _ => trivial) ?_)
          refine gl_cons (gs_val (val_move rfl) rfl rfl rfl ?_)
          refine gl_cons (gs_val (val_extract rfl rfl) rfl rfl rfl ?_)
          refine gl_cons (gs_val (val_extract rfl rfl) rfl rfl rfl ?_)
          refine gl_cons (gs_alloc kze24 rfl rfl rfl (fun b21 => ?_))
          refine gl_cons (gs_store ksz24 rfl rfl rfl rfl rfl rfl (by first | exact .head | exact .tail .head | exact .tail (.tail .head) | exact .tail (.tail (.tail .head)) | exact .tail (.tail (.tail (.tail .head))) | exact .tail (.tail (.tail (.tail (.tail .head))))) (by simp) (by first | ((with_reducible refine splice_all _ _ ?_); simp; done) | (simp only [splice, stL, digL, List.take_succ_cons, List.take_zero, List.drop_succ_cons, List.drop_zero, List.length_cons, List.length_nil, Nat.reduceAdd, Nat.reduceMul, Nat.zero_add, Nat.zero_mul, List.cons_append, List.nil_append]; exact rfl)) ?_)
          refine gl_cons (gs_val (val_assign rfl) rfl rfl rfl ?_)
          refine gl_nil ?_
          refine gk_seq ?_
          refine gc_seq ?_
          refine gc_region ?_
          refine gl_cons (gs_val (val_move rfl) rfl rfl rfl ?_)
          refine gl_cons (gs_val (val_loadA kag22 rfl (sees_mem (by repeat (first | exact .head _ | refine .tail _ ?_ | refine List.mem_append_right _ ?_))) rfl rfl) rfl rfl rfl ?_)
          refine gl_cons (gs_pure (enters kcall100 (.cons rfl (.cons rfl .nil))) (answer_nil _) rfl rfl rfl (fun _ _ => trivial) ?_)
          refine gl_cons (gs_val (val_move rfl) rfl rfl rfl ?_)
          refine gl_cons (gs_val (val_extract rfl rfl) rfl rfl rfl ?_)
          refine gl_cons (gs_val (val_extract rfl rfl) rfl rfl rfl ?_)
          refine gl_cons (gs_alloc kze24 rfl rfl rfl (fun b23 => ?_))
          refine gl_cons (gs_store ksz24 rfl rfl rfl rfl rfl rfl (by first | exact .head | exact .tail .head | exact .tail (.tail .head) | exact .tail (.tail (.tail .head)) | exact .tail (.tail (.tail (.tail .head))) | exact .tail (.tail (.tail (.tail (.tail .head))))) (by simp) (by first | ((with_reducible refine splice_all _ _ ?_); simp; done) | (simp only [splice, stL, digL, List.take_succ_cons, List.take_zero, List.drop_succ_cons, List.drop_zero, List.length_cons, List.length_nil, Nat.reduceAdd, Nat.reduceMul, Nat.zero_add, Nat.zero_mul, List.cons_append, List.nil_append]; exact rfl)) ?_)
          refine gl_cons (gs_val (val_assign rfl) rfl rfl rfl ?_)
          refine gl_nil ?_
          refine gk_seq ?_
          refine gc_seq ?_
          refine gc_drawAll kmixed (by kernel_rfl) ?_
          refine gq_val (val_move rfl) rfl rfl rfl ?_
          refine gq_val (val_move rfl) rfl rfl rfl ?_
          refine gq_pure (enters kcall105 (.cons rfl (.cons rfl .nil))) (sameC_spec bc bx x x p (p - q - u) p (p - q)) rfl rfl rfl (fun w hi => ⟨row_of_sees (sees_all (by repeat (first | exact .head _ | refine .tail _ ?_ | refine List.mem_append_right _ ?_))) w hi, row_of_sees (sees_all (by repeat (first | exact .head _ | refine .tail _ ?_ | refine List.mem_append_right _ ?_))) w hi⟩) ?_
          refine gq_val (val_move rfl) rfl rfl rfl ?_
          refine gq_pure (enters kcall104 (.cons rfl .nil)) (left_spec bc x p (p - q - u)) rfl rfl rfl (row_of_sees (sees_all (by repeat (first | exact .head _ | refine .tail _ ?_ | refine List.mem_append_right _ ?_)))) ?_
          refine gq_val (val_move rfl) rfl rfl rfl ?_
          refine gq_pure (enters kcall104 (.cons rfl .nil)) (left_spec bx x p (p - q)) rfl rfl rfl (row_of_sees (sees_all (by repeat (first | exact .head _ | refine .tail _ ?_ | refine List.mem_append_right _ ?_)))) ?_
          refine gq_val (val_eql rfl rfl) rfl rfl rfl ?_
          refine gq_val (val_cast (v := .bool true) (val_eqlB kun4 rfl rfl) (congrArg Value.bool (same_left x p (p - q - u) (p - q)))) rfl rfl rfl ?_
          refine gq_val (val_move rfl) rfl rfl rfl ?_
          refine gq_val (val_move rfl) rfl rfl rfl ?_
          refine gq_pure (enters kcall104 (.cons rfl .nil)) (left_spec bx x p (p - q)) rfl rfl rfl (row_of_sees (sees_all (by repeat (first | exact .head _ | refine .tail _ ?_ | refine List.mem_append_right _ ?_)))) ?_
          refine gq_val (val_move rfl) rfl rfl rfl ?_
          refine gq_val (val_move rfl) rfl rfl rfl ?_
          refine gq_val (val_subI rfl rfl (by omega)) rfl rfl rfl ?_
          refine gq_val (val_yes (val_eql rfl rfl) (by omega)) rfl rfl rfl ?_
          refine gq_val (val_pick_t rfl rfl) rfl rfl rfl ?_
          refine gq_val (val_move rfl) rfl rfl rfl ?_
          refine gq_val (val_move rfl) rfl rfl rfl ?_
          refine gq_val (val_yes (val_eql rfl rfl) rfl) rfl rfl rfl ?_
          refine gq_val (val_pick_t rfl rfl) rfl rfl rfl ?_
          refine gq_val (val_move rfl) rfl rfl rfl ?_
          refine gq_val (val_move rfl) rfl rfl rfl ?_
          refine gq_val (val_yes (val_eql rfl rfl) rfl) rfl rfl rfl ?_
          refine gq_val (val_pick_t rfl rfl) rfl rfl rfl ?_
          refine gq_val (val_move rfl) rfl rfl rfl ?_
          refine gq_val (val_move rfl) rfl rfl rfl ?_
          refine gq_pure (enters kcall104 (.cons rfl .nil)) (left_nil) rfl rfl rfl (fun _ _ => trivial) ?_
          refine gq_val (val_yes (val_eql rfl rfl) rfl) rfl rfl rfl ?_
          refine gq_val (val_pick_t rfl rfl) rfl rfl rfl ?_
          refine gq_val (val_move rfl) rfl rfl rfl ?_
          refine gq_val (val_move rfl) rfl rfl rfl ?_
          refine gq_pure (enters kcall101 (.cons rfl .nil)) (tip_nil) rfl rfl rfl (fun _ _ => trivial) ?_
          refine gq_val (val_buildZ kze24 rfl kar24) rfl rfl rfl ?_
          refine gq_val (val_yes (val_eqlDig (i := 0#64) (j := 0#64) kdig24 rfl rfl rfl rfl) rfl) rfl rfl rfl ?_
          refine gq_val (val_pick_t rfl rfl) rfl rfl rfl ?_
          refine gq_val (val_move rfl) rfl rfl rfl ?_
          refine gq_val (val_move rfl) rfl rfl rfl ?_
          refine gq_pure (enters kcall102 (.cons rfl .nil)) (anchor_nil) rfl rfl rfl (fun _ _ => trivial) ?_
          refine gq_val (val_buildZ kze24 rfl kar24) rfl rfl rfl ?_
          refine gq_val (val_yes (val_eqlDig (i := 0#64) (j := 0#64) kdig24 rfl rfl rfl rfl) rfl) rfl rfl rfl ?_
          refine gq_val (val_pick_t rfl rfl) rfl rfl rfl ?_
          refine gq_val (val_move rfl) rfl rfl rfl ?_
          refine gq_val (val_move rfl) rfl rfl rfl ?_
          refine gq_pure (enters kcall106 (.cons rfl .nil)) (clone_nil) rfl rfl rfl (fun _ _ => trivial) ?_
          refine gq_val (val_eqlNil kun123 rfl rfl) rfl rfl rfl ?_
          refine gq_val (val_pick_t rfl rfl) rfl rfl rfl ?_
          refine gq_val (val_move rfl) rfl rfl rfl ?_
          refine gq_val (val_move rfl) rfl rfl rfl ?_
          refine gq_pure (enters kcall105 (.cons rfl (.cons rfl .nil))) (sameC_nn) rfl rfl rfl (fun _ _ => trivial) ?_
          refine gq_val (val_pick_t rfl rfl) rfl rfl rfl ?_
          refine gq_val (val_move rfl) rfl rfl rfl ?_
          refine gq_val (val_move rfl) rfl rfl rfl ?_
          refine gq_val (val_move rfl) rfl rfl rfl ?_
          refine gq_pure (enters kcall105 (.cons rfl (.cons rfl .nil))) (sameC_nc bx) rfl rfl rfl (fun _ _ => trivial) ?_
          refine gq_val (val_not rfl) rfl rfl rfl ?_
          refine gq_val (val_pick_t rfl rfl) rfl rfl rfl ?_
          refine gq_val (val_move rfl) rfl rfl rfl ?_
          refine gq_val (val_loadA kag22 rfl (sees_mem (by repeat (first | exact .head _ | refine .tail _ ?_ | refine List.mem_append_right _ ?_))) rfl rfl) rfl rfl rfl ?_
          refine gq_pure (enters kcall37 (.cons rfl .nil)) (rnum_spec x) rfl rfl rfl (fun _ _ => trivial) ?_
          refine gq_val (val_loadA kag22 rfl (sees_mem (by repeat (first | exact .head _ | refine .tail _ ?_ | refine List.mem_append_right _ ?_))) rfl rfl) rfl rfl rfl ?_
          refine gq_pure (enters kcall36 (.cons rfl .nil)) (num_spec x) rfl rfl rfl (fun _ _ => trivial) ?_
          refine gq_val (val_yes (val_eq64 rfl rfl rfl rfl) rfl) rfl rfl rfl ?_
          refine gq_val (val_pick_t rfl rfl) rfl rfl rfl ?_
          refine gq_val (val_assign rfl) rfl rfl rfl ?_
          refine gq_nil ?_
          refine gl_nil ?_
          refine gk_seq ?_
          refine gc_ret ?_
          refine gk_ret rfl (resv_tmp rfl .nil) (List.nil_sublist _) ?_
          exact ⟨rfl, rfl⟩

end Go.Proofs.Ythmepionpjkcgaa
