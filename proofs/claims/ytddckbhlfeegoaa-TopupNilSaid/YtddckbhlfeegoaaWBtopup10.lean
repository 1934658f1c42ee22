/- The walk of functions of the program: what each computes, for every input. -/
import Derived.Test.YtddckbhlfeegoaaWBFacts
import Derived.Test.YtddckbhlfeegoaaWBtopup9
namespace Go.Proofs.Ytddckbhlfeegoaa
open Go Go.Eng
set_option linter.unusedVariables false
set_option linter.unusedSimpArgs false

/-- (*baize/topup.Bank).Clone -/
theorem cloneBk_nil  : Pure Try.prog 34 ([.pointer none]).toArray (fun _ => True) (.pointer none) := by
  refine spec_walk (n := 41) Try.func34 rfl rfl rfl (fun w0 hpre => ?_)
  refine gc_seq ?_
  refine gc_region ?_
  refine gl_cons (gs_val (val_assign rfl) rfl rfl rfl ?_)
  refine gl_nil ?_
  refine gk_seq ?_
  refine gc_seq ?_
  refine gc_seq ?_
  refine gc_region ?_
  refine gl_cons (gs_val (val_move rfl) rfl rfl rfl ?_)
  refine gl_cons (gs_val (val_eqlNil kun24 rfl rfl) rfl rfl rfl ?_)
  refine gl_nil ?_
  refine gk_seq ?_
  refine gc_true rfl ?_
  refine gc_seq ?_
  refine gc_region ?_
  refine gl_cons (gs_val (val_assign rfl) rfl rfl rfl ?_)
  refine gl_nil ?_
  refine gk_seq ?_
  refine gc_ret ?_
  refine gk_seq_ret ?_
  refine gk_ret rfl (resv_tmp rfl .nil) (List.nil_sublist _) ?_
  exact ⟨rfl, rfl⟩

/-- (*baize/topup.Bank).Clone -/
theorem cloneBk_none (b : Nat) (sa : Option Addr) (sc : Nat) (nm : Int) (st : List Int) (h8 : st.length ≤ 8) : Makes Try.prog 34 ([.pointer (some ⟨b, 0, none⟩)]).toArray (fun w => Row w [] (some ⟨b, 0, none⟩) (bkL (.slice sa st.length sc) nm (.pointer none)) ∧ Row w [] sa (st.map I64)) (fun t : Nat × List Ent => BK 154 157 3 4 t.1 ⟨st, nm, none⟩ t.2) (fun t => .pointer (some ⟨t.1, 0, none⟩)) (fun t => t.2) := by
  refine spec_walk (n := 41) Try.func34 rfl rfl rfl (fun w0 hpre => ?_)
  refine gc_seq ?_
  refine gc_region ?_
  refine gl_cons (gs_val (val_assign rfl) rfl rfl rfl ?_)
  refine gl_nil ?_
  refine gk_seq ?_
  refine gc_seq ?_
  refine gc_seq ?_
  refine gc_region ?_
  refine gl_cons (gs_val (val_move rfl) rfl rfl rfl ?_)
  refine gl_cons (gs_val (val_eqlNil kun24 rfl rfl) rfl rfl rfl ?_)
  refine gl_nil ?_
  refine gk_seq ?_
  refine gc_false rfl ?_
  refine gc_skip ?_
  refine gk_seq ?_
  refine gc_seq ?_
  refine ga_start (m := 9) (ls := [false, false, false, false, false, false, false, false, false]) kmixed rfl rfl ?_
  apply share3 (α := Option Addr) (β := Nat) (γ := List Ent) (m' := 2) (ls' := [true, true, true, true, true, true, true, false, false])
  · intro hD0
    refine ga_take (i := 0) (ls' := [true, false, false, false, false, false, false, false, false]) rfl (by kernel_rfl) rfl (fun _ _ _ => val_move rfl) rfl rfl rfl ?_
    refine ga_take (i := 2) (ls' := [true, false, true, false, false, false, false, false, false]) rfl (by kernel_rfl) rfl (fun _ _ _ => val_move rfl) rfl rfl rfl ?_
    refine ga_take (i := 3) (ls' := [true, false, true, true, false, false, false, false, false]) rfl (by kernel_rfl) rfl (fun _ _ _ => val_nilCheck rfl) rfl rfl rfl ?_
    refine ga_take (i := 4) (ls' := [true, false, true, true, true, false, false, false, false]) rfl (by kernel_rfl) rfl (fun _ _ _ => val_fieldAddr kfo154_1 rfl) rfl rfl rfl ?_
    refine ga_branch (rs := [1, 5]) (by kernel_rfl) rfl (.cons (ls' := [true, true, true, true, true, false, false, false, false]) rfl rfl ?_ (.cons (ls' := [true, false, true, true, true, true, false, false, false]) rfl rfl ?_ .nil))
    · skip
      refine gs_makes (enters kcall32 (.cons rfl .nil)) (stakes_spec b sa st.length sc nm (.pointer none) st rfl (by omega)) rfl rfl rfl (fun w hi => ⟨(row_of_sees (sees_row hpre.1)) w hi, (row_of_sees (sees_row hpre.2)) w hi⟩) (fun ⟨sa2, sc2, NS2⟩ hs2 => ?_)
      have hs2 : Own 3 1 sa2 st.length sc2 (st.map I64) NS2 := hs2
      refine ga_branch (rs := [5]) (by kernel_rfl) rfl (.cons (ls' := [true, true, true, true, true, true, false, false, false]) rfl rfl ?_ .nil)
      refine gs_val (val_load1 kag3 rfl ((sees_row hpre.1).part 1) rfl) rfl rfl rfl ?_
      refine ga_take (i := 6) (ls' := [true, true, true, true, true, true, true, false, false]) rfl (by kernel_rfl) rfl (fun _ _ _ => val_buildStr kze154 kpl154 (.cons rfl (.cons rfl .nil)) rfl (.cons rfl rfl rfl (by simp) (by first | ((with_reducible refine splice_all _ _ ?_); simp; done) | (simp only [splice, stL, digL, List.take_succ_cons, List.take_zero, List.drop_succ_cons, List.drop_zero, List.length_cons, List.length_nil, Nat.reduceAdd, Nat.reduceMul, Nat.zero_add, Nat.zero_mul, List.cons_append, List.nil_append]; exact rfl)) (.cons rfl rfl rfl (by simp) (by first | ((with_reducible refine splice_all _ _ ?_); simp; done) | (simp only [splice, stL, digL, List.take_succ_cons, List.take_zero, List.drop_succ_cons, List.drop_zero, List.length_cons, List.length_nil, Nat.reduceAdd, Nat.reduceMul, Nat.zero_add, Nat.zero_mul, List.cons_append, List.nil_append]; exact rfl)) .nil))) rfl rfl rfl ?_
      refine gx_env (F := [(0, _), (2, _), (4, _), (5, _), (6, _), (7, _), (8, _), (9, _), (10, _), (11, _), (12, _)]) (.cons rfl (.cons rfl (.cons rfl (.cons rfl (.cons rfl (.cons rfl (.cons rfl (.cons rfl (.cons rfl (.cons rfl (.cons rfl .nil))))))))))) (gx_perm (by first | exact .refl _ | (repeat (first | exact .refl _ | refine perm_take (by first | exact .head | exact .tail .head | exact .tail (.tail .head) | exact .tail (.tail (.tail .head)) | exact .tail (.tail (.tail (.tail .head))) | exact .tail (.tail (.tail (.tail (.tail .head))))) ?_ | refine perm_takeL (by repeat (first | exact .app | exact .here | apply TakeL.tail | apply TakeL.appr)) ?_ | refine perm_takeX (by repeat (first | exact .cons .head .nil | apply TakeL.tail | apply TakeL.appr)) ?_))) (hD0 sa2 sc2 NS2 (And.intro hs2 True.intro)))
    · skip
      refine gs_val (val_load1 kag3 rfl ((sees_row hpre.1).part 1) rfl) rfl rfl rfl ?_
      refine ga_branch (rs := [1]) (by kernel_rfl) rfl (.cons (ls' := [true, true, true, true, true, true, false, false, false]) rfl rfl ?_ .nil)
      refine gs_makes (enters kcall32 (.cons rfl .nil)) (stakes_spec b sa st.length sc nm (.pointer none) st rfl (by omega)) rfl rfl rfl (fun w hi => ⟨(row_of_sees (sees_row hpre.1)) w hi, (row_of_sees (sees_row hpre.2)) w hi⟩) (fun ⟨sa2, sc2, NS2⟩ hs2 => ?_)
      have hs2 : Own 3 1 sa2 st.length sc2 (st.map I64) NS2 := hs2
      refine ga_take (i := 6) (ls' := [true, true, true, true, true, true, true, false, false]) rfl (by kernel_rfl) rfl (fun _ _ _ => val_buildStr kze154 kpl154 (.cons rfl (.cons rfl .nil)) rfl (.cons rfl rfl rfl (by simp) (by first | ((with_reducible refine splice_all _ _ ?_); simp; done) | (simp only [splice, stL, digL, List.take_succ_cons, List.take_zero, List.drop_succ_cons, List.drop_zero, List.length_cons, List.length_nil, Nat.reduceAdd, Nat.reduceMul, Nat.zero_add, Nat.zero_mul, List.cons_append, List.nil_append]; exact rfl)) (.cons rfl rfl rfl (by simp) (by first | ((with_reducible refine splice_all _ _ ?_); simp; done) | (simp only [splice, stL, digL, List.take_succ_cons, List.take_zero, List.drop_succ_cons, List.drop_zero, List.length_cons, List.length_nil, Nat.reduceAdd, Nat.reduceMul, Nat.zero_add, Nat.zero_mul, List.cons_append, List.nil_append]; exact rfl)) .nil))) rfl rfl rfl ?_
      refine gx_env (F := [(0, _), (2, _), (4, _), (5, _), (6, _), (7, _), (8, _), (9, _), (10, _), (11, _), (12, _)]) (.cons rfl (.cons rfl (.cons rfl (.cons rfl (.cons rfl (.cons rfl (.cons rfl (.cons rfl (.cons rfl (.cons rfl (.cons rfl .nil))))))))))) (gx_perm (by first | exact .refl _ | (repeat (first | exact .refl _ | refine perm_take (by first | exact .head | exact .tail .head | exact .tail (.tail .head) | exact .tail (.tail (.tail .head)) | exact .tail (.tail (.tail (.tail .head))) | exact .tail (.tail (.tail (.tail (.tail .head))))) ?_ | refine perm_takeL (by repeat (first | exact .app | exact .here | apply TakeL.tail | apply TakeL.appr)) ?_ | refine perm_takeX (by repeat (first | exact .cons .head .nil | apply TakeL.tail | apply TakeL.appr)) ?_))) (hD0 sa2 sc2 NS2 (And.intro hs2 True.intro)))
  · rintro sa2 sc2 NS2 ⟨hs2, _⟩
    refine ga_branch (rs := [7]) (by kernel_rfl) rfl (.cons (ls' := [true, true, true, true, true, true, true, true, false]) rfl rfl ?_ .nil)
    refine gs_box rfl rfl rfl rfl (fun cb => ?_)
    refine ga_take (i := 8) (ls' := [true, true, true, true, true, true, true, true, true]) rfl (by kernel_rfl) rfl (fun _ _ _ => val_assign rfl) rfl rfl rfl ?_
    refine ga_done (by kernel_rfl) ?_
    refine gk_seq ?_
    refine gc_seq ?_
    refine gc_seq ?_
    refine gc_region ?_
    refine gl_cons (gs_val (val_move rfl) rfl rfl rfl ?_)
    refine gl_cons (gs_val (val_nilCheck rfl) rfl rfl rfl ?_)
    refine gl_cons (gs_val (val_fieldAddr kfo154_2 rfl) rfl rfl rfl ?_)
    refine gl_cons (gs_val (val_load1 kag152 rfl ((sees_row hpre.1).part 2) rfl) rfl rfl rfl ?_)
    refine gl_cons (gs_val (val_neqNil kun152 rfl rfl) rfl rfl rfl ?_)
    refine gl_nil ?_
    refine gk_seq ?_
    refine gc_false rfl ?_
    refine gc_skip ?_
    refine gk_seq ?_
    refine gc_seq ?_
    refine gc_region ?_
    refine gl_cons (gs_val (val_move rfl) rfl rfl rfl ?_)
    refine gl_cons (gs_val (val_assign rfl) rfl rfl rfl ?_)
    refine gl_nil ?_
    refine gk_seq ?_
    refine gc_ret ?_
    refine gk_ret rfl (resv_tmp rfl .nil) (M := bkE 154 cb (.slice sa2 st.length sc2) nm (.pointer none) :: NS2) (List.Sublist.cons_cons _ (List.sublist_append_left NS2 _)) ?_
    exact ⟨(cb, _), ⟨sa2, sc2, NS2, hs2, rfl⟩, rfl, rfl⟩

set_option maxRecDepth 8000 in
/-- (*baize/topup.Bank).Clone -/
theorem cloneBk_some (b : Nat) (sa : Option Addr) (sc : Nat) (nm : Int) (st : List Int) (h8 : st.length ≤ 8) (p : Nat) (tb : BitVec 64) (num un : Int) (aa pa : Option Addr) (ac pc : Nat) (ad : List Int) (pu : List Bool) (ha8 : ad.length ≤ 8) (hp8 : pu.length ≤ 8) : Makes Try.prog 34 ([.pointer (some ⟨b, 0, none⟩)]).toArray (fun w => Row w [] (some ⟨b, 0, none⟩) (bkL (.slice sa st.length sc) nm (.pointer (some ⟨p, 0, none⟩))) ∧ Row w [] sa (st.map I64) ∧ Row w [] (some ⟨p, 0, none⟩) (pdL tb num (.slice aa ad.length ac) un (.slice pa pu.length pc)) ∧ Row w [] aa (ad.map I64) ∧ Row w [] pa (pu.map Value.bool)) (fun t : Nat × List Ent => BK 154 157 3 4 t.1 ⟨st, nm, some ⟨tb, num, ad, un, pu⟩⟩ t.2) (fun t => .pointer (some ⟨t.1, 0, none⟩)) (fun t => t.2) := by
  refine spec_walk (n := 41) Try.func34 rfl rfl rfl (fun w0 hpre => ?_)
  refine gc_seq ?_
  refine gc_region ?_
  refine gl_cons (gs_val (val_assign rfl) rfl rfl rfl ?_)
  refine gl_nil ?_
  refine gk_seq ?_
  refine gc_seq ?_
  refine gc_seq ?_
  refine gc_region ?_
  refine gl_cons (gs_val (val_move rfl) rfl rfl rfl ?_)
  refine gl_cons (gs_val (val_eqlNil kun24 rfl rfl) rfl rfl rfl ?_)
  refine gl_nil ?_
  refine gk_seq ?_
  refine gc_false rfl ?_
  refine gc_skip ?_
  refine gk_seq ?_
  refine gc_seq ?_
  refine ga_start (m := 9) (ls := [false, false, false, false, false, false, false, false, false]) kmixed rfl rfl ?_
  apply share3 (α := Option Addr) (β := Nat) (γ := List Ent) (m' := 2) (ls' := [true, true, true, true, true, true, true, false, false])
  · intro hD0
    refine ga_take (i := 0) (ls' := [true, false, false, false, false, false, false, false, false]) rfl (by kernel_rfl) rfl (fun _ _ _ => val_move rfl) rfl rfl rfl ?_
    refine ga_take (i := 2) (ls' := [true, false, true, false, false, false, false, false, false]) rfl (by kernel_rfl) rfl (fun _ _ _ => val_move rfl) rfl rfl rfl ?_
    refine ga_take (i := 3) (ls' := [true, false, true, true, false, false, false, false, false]) rfl (by kernel_rfl) rfl (fun _ _ _ => val_nilCheck rfl) rfl rfl rfl ?_
    refine ga_take (i := 4) (ls' := [true, false, true, true, true, false, false, false, false]) rfl (by kernel_rfl) rfl (fun _ _ _ => val_fieldAddr kfo154_1 rfl) rfl rfl rfl ?_
    refine ga_branch (rs := [1, 5]) (by kernel_rfl) rfl (.cons (ls' := [true, true, true, true, true, false, false, false, false]) rfl rfl ?_ (.cons (ls' := [true, false, true, true, true, true, false, false, false]) rfl rfl ?_ .nil))
    · skip
      refine gs_makes (enters kcall32 (.cons rfl .nil)) (stakes_spec b sa st.length sc nm (.pointer (some ⟨p, 0, none⟩)) st rfl (by omega)) rfl rfl rfl (fun w hi => ⟨(row_of_sees (sees_row hpre.1)) w hi, (row_of_sees (sees_row hpre.2.1)) w hi⟩) (fun ⟨sa2, sc2, NS2⟩ hs2 => ?_)
      have hs2 : Own 3 1 sa2 st.length sc2 (st.map I64) NS2 := hs2
      refine ga_branch (rs := [5]) (by kernel_rfl) rfl (.cons (ls' := [true, true, true, true, true, true, false, false, false]) rfl rfl ?_ .nil)
      refine gs_val (val_load1 kag3 rfl ((sees_row hpre.1).part 1) rfl) rfl rfl rfl ?_
      refine ga_take (i := 6) (ls' := [true, true, true, true, true, true, true, false, false]) rfl (by kernel_rfl) rfl (fun _ _ _ => val_buildStr kze154 kpl154 (.cons rfl (.cons rfl .nil)) rfl (.cons rfl rfl rfl (by simp) (by first | ((with_reducible refine splice_all _ _ ?_); simp; done) | (simp only [splice, stL, digL, List.take_succ_cons, List.take_zero, List.drop_succ_cons, List.drop_zero, List.length_cons, List.length_nil, Nat.reduceAdd, Nat.reduceMul, Nat.zero_add, Nat.zero_mul, List.cons_append, List.nil_append]; exact rfl)) (.cons rfl rfl rfl (by simp) (by first | ((with_reducible refine splice_all _ _ ?_); simp; done) | (simp only [splice, stL, digL, List.take_succ_cons, List.take_zero, List.drop_succ_cons, List.drop_zero, List.length_cons, List.length_nil, Nat.reduceAdd, Nat.reduceMul, Nat.zero_add, Nat.zero_mul, List.cons_append, List.nil_append]; exact rfl)) .nil))) rfl rfl rfl ?_
      refine gx_env (F := [(0, _), (2, _), (4, _), (5, _), (6, _), (7, _), (8, _), (9, _), (10, _), (11, _), (12, _)]) (.cons rfl (.cons rfl (.cons rfl (.cons rfl (.cons rfl (.cons rfl (.cons rfl (.cons rfl (.cons rfl (.cons rfl (.cons rfl .nil))))))))))) (gx_perm (by first | exact .refl _ | (repeat (first | exact .refl _ | refine perm_take (by first | exact .head | exact .tail .head | exact .tail (.tail .head) | exact .tail (.tail (.tail .head)) | exact .tail (.tail (.tail (.tail .head))) | exact .tail (.tail (.tail (.tail (.tail .head))))) ?_ | refine perm_takeL (by repeat (first | exact .app | exact .here | apply TakeL.tail | apply TakeL.appr)) ?_ | refine perm_takeX (by repeat (first | exact .cons .head .nil | apply TakeL.tail | apply TakeL.appr)) ?_))) (hD0 sa2 sc2 NS2 (And.intro hs2 True.intro)))
    · skip
      refine gs_val (val_load1 kag3 rfl ((sees_row hpre.1).part 1) rfl) rfl rfl rfl ?_
      refine ga_branch (rs := [1]) (by kernel_rfl) rfl (.cons (ls' := [true, true, true, true, true, true, false, false, false]) rfl rfl ?_ .nil)
      refine gs_makes (enters kcall32 (.cons rfl .nil)) (stakes_spec b sa st.length sc nm (.pointer (some ⟨p, 0, none⟩)) st rfl (by omega)) rfl rfl rfl (fun w hi => ⟨(row_of_sees (sees_row hpre.1)) w hi, (row_of_sees (sees_row hpre.2.1)) w hi⟩) (fun ⟨sa2, sc2, NS2⟩ hs2 => ?_)
      have hs2 : Own 3 1 sa2 st.length sc2 (st.map I64) NS2 := hs2
      refine ga_take (i := 6) (ls' := [true, true, true, true, true, true, true, false, false]) rfl (by kernel_rfl) rfl (fun _ _ _ => val_buildStr kze154 kpl154 (.cons rfl (.cons rfl .nil)) rfl (.cons rfl rfl rfl (by simp) (by first | ((with_reducible refine splice_all _ _ ?_); simp; done) | (simp only [splice, stL, digL, List.take_succ_cons, List.take_zero, List.drop_succ_cons, List.drop_zero, List.length_cons, List.length_nil, Nat.reduceAdd, Nat.reduceMul, Nat.zero_add, Nat.zero_mul, List.cons_append, List.nil_append]; exact rfl)) (.cons rfl rfl rfl (by simp) (by first | ((with_reducible refine splice_all _ _ ?_); simp; done) | (simp only [splice, stL, digL, List.take_succ_cons, List.take_zero, List.drop_succ_cons, List.drop_zero, List.length_cons, List.length_nil, Nat.reduceAdd, Nat.reduceMul, Nat.zero_add, Nat.zero_mul, List.cons_append, List.nil_append]; exact rfl)) .nil))) rfl rfl rfl ?_
      refine gx_env (F := [(0, _), (2, _), (4, _), (5, _), (6, _), (7, _), (8, _), (9, _), (10, _), (11, _), (12, _)]) (.cons rfl (.cons rfl (.cons rfl (.cons rfl (.cons rfl (.cons rfl (.cons rfl (.cons rfl (.cons rfl (.cons rfl (.cons rfl .nil))))))))))) (gx_perm (by first | exact .refl _ | (repeat (first | exact .refl _ | refine perm_take (by first | exact .head | exact .tail .head | exact .tail (.tail .head) | exact .tail (.tail (.tail .head)) | exact .tail (.tail (.tail (.tail .head))) | exact .tail (.tail (.tail (.tail (.tail .head))))) ?_ | refine perm_takeL (by repeat (first | exact .app | exact .here | apply TakeL.tail | apply TakeL.appr)) ?_ | refine perm_takeX (by repeat (first | exact .cons .head .nil | apply TakeL.tail | apply TakeL.appr)) ?_))) (hD0 sa2 sc2 NS2 (And.intro hs2 True.intro)))
  · rintro sa2 sc2 NS2 ⟨hs2, _⟩
    refine ga_branch (rs := [7]) (by kernel_rfl) rfl (.cons (ls' := [true, true, true, true, true, true, true, true, false]) rfl rfl ?_ .nil)
    refine gs_box rfl rfl rfl rfl (fun cb => ?_)
    refine ga_take (i := 8) (ls' := [true, true, true, true, true, true, true, true, true]) rfl (by kernel_rfl) rfl (fun _ _ _ => val_assign rfl) rfl rfl rfl ?_
    refine ga_done (by kernel_rfl) ?_
    refine gk_seq ?_
    refine gc_seq ?_
    refine gc_seq ?_
    refine gc_region ?_
    refine gl_cons (gs_val (val_move rfl) rfl rfl rfl ?_)
    refine gl_cons (gs_val (val_nilCheck rfl) rfl rfl rfl ?_)
    refine gl_cons (gs_val (val_fieldAddr kfo154_2 rfl) rfl rfl rfl ?_)
    refine gl_cons (gs_val (val_load1 kag152 rfl ((sees_row hpre.1).part 2) rfl) rfl rfl rfl ?_)
    refine gl_cons (gs_val (val_neqNil kun152 rfl rfl) rfl rfl rfl ?_)
    refine gl_nil ?_
    refine gk_seq ?_
    refine gc_true rfl ?_
    refine ga_start (m := 22) (ls := [false, false, false, false, false, false, false, false, false, false, false, false, false, false, false, false, false, false, false, false, false, false]) kmixed rfl rfl ?_
    apply share3 (α := Option Addr) (β := Nat) (γ := List Ent) (m' := 6) (ls' := [true, true, true, true, true, true, true, true, true, true, true, true, true, true, true, true, false, false, false, false, false, false])
    · intro hD0
      apply share3 (α := Option Addr) (β := Nat) (γ := List Ent) (m' := 7) (ls' := [true, true, true, true, true, true, true, true, true, true, true, true, true, true, true, false, false, false, false, false, false, false])
      · intro hD1
        apply share0  (m' := 7) (ls' := [true, true, true, true, true, true, true, true, false, true, true, true, true, true, true, true, false, false, false, false, false, false])
        · intro hD2
          apply share0  (m' := 8) (ls' := [true, true, true, true, true, true, true, true, false, true, true, true, true, true, true, false, false, false, false, false, false, false])
          · intro hD3
            apply share0  (m' := 8) (ls' := [true, true, true, true, true, true, true, false, false, true, true, true, true, true, true, true, false, false, false, false, false, false])
            · intro hD4
              apply share0  (m' := 9) (ls' := [true, true, true, true, true, true, true, false, false, true, true, true, true, true, true, false, false, false, false, false, false, false])
              · intro hD5
                refine ga_take (i := 0) (ls' := [true, false, false, false, false, false, false, false, false, false, false, false, false, false, false, false, false, false, false, false, false, false]) rfl (by kernel_rfl) rfl (fun _ _ _ => val_move rfl) rfl rfl rfl ?_
                refine ga_take (i := 1) (ls' := [true, true, false, false, false, false, false, false, false, false, false, false, false, false, false, false, false, false, false, false, false, false]) rfl (by kernel_rfl) rfl (fun _ _ _ => val_move rfl) rfl rfl rfl ?_
                refine ga_take (i := 2) (ls' := [true, true, true, false, false, false, false, false, false, false, false, false, false, false, false, false, false, false, false, false, false, false]) rfl (by kernel_rfl) rfl (fun _ _ _ => val_nilCheck rfl) rfl rfl rfl ?_
                refine ga_take (i := 3) (ls' := [true, true, true, true, false, false, false, false, false, false, false, false, false, false, false, false, false, false, false, false, false, false]) rfl (by kernel_rfl) rfl (fun _ _ _ => val_fieldAddr kfo154_2 rfl) rfl rfl rfl ?_
                refine ga_take (i := 9) (ls' := [true, true, true, true, false, false, false, false, false, true, false, false, false, false, false, false, false, false, false, false, false, false]) rfl (by kernel_rfl) rfl (fun _ _ _ => val_move rfl) rfl rfl rfl ?_
                refine ga_take (i := 10) (ls' := [true, true, true, true, false, false, false, false, false, true, true, false, false, false, false, false, false, false, false, false, false, false]) rfl (by kernel_rfl) rfl (fun _ _ _ => val_nilCheck rfl) rfl rfl rfl ?_
                refine ga_take (i := 11) (ls' := [true, true, true, true, false, false, false, false, false, true, true, true, false, false, false, false, false, false, false, false, false, false]) rfl (by kernel_rfl) rfl (fun _ _ _ => val_fieldAddr kfo154_2 rfl) rfl rfl rfl ?_
                refine ga_branch (rs := [4, 12]) (by kernel_rfl) rfl (.cons (ls' := [true, true, true, true, true, false, false, false, false, true, true, true, false, false, false, false, false, false, false, false, false, false]) rfl rfl ?_ (.cons (ls' := [true, true, true, true, false, false, false, false, false, true, true, true, true, false, false, false, false, false, false, false, false, false]) rfl rfl ?_ .nil))
                · skip
                  refine gs_val (val_load1 kag152 rfl ((sees_row hpre.1).part 2) rfl) rfl rfl rfl ?_
                  refine ga_take (i := 5) (ls' := [true, true, true, true, true, true, false, false, false, true, true, true, false, false, false, false, false, false, false, false, false, false]) rfl (by kernel_rfl) rfl (fun _ _ _ => val_nilCheck rfl) rfl rfl rfl ?_
                  refine ga_take (i := 6) (ls' := [true, true, true, true, true, true, true, false, false, true, true, true, false, false, false, false, false, false, false, false, false, false]) rfl (by kernel_rfl) rfl (fun _ _ _ => val_fieldAddr kfo157_0 rfl) rfl rfl rfl ?_
                  refine ga_branch (rs := [7, 12]) (by kernel_rfl) rfl (.cons (ls' := [true, true, true, true, true, true, true, true, false, true, true, true, false, false, false, false, false, false, false, false, false, false]) rfl rfl ?_ (.cons (ls' := [true, true, true, true, true, true, true, false, false, true, true, true, true, false, false, false, false, false, false, false, false, false]) rfl rfl ?_ .nil))
                  · skip
                    refine gs_val (val_loadA (ds := raL tb num (.slice aa ad.length ac) un) kag33 rfl (sees_row hpre.2.2.1) rfl rfl) rfl rfl rfl ?_
                    refine ga_branch (rs := [8, 12]) (by kernel_rfl) rfl (.cons (ls' := [true, true, true, true, true, true, true, true, true, true, true, true, false, false, false, false, false, false, false, false, false, false]) rfl rfl ?_ (.cons (ls' := [true, true, true, true, true, true, true, true, false, true, true, true, true, false, false, false, false, false, false, false, false, false]) rfl rfl ?_ .nil))
                    · skip
                      refine gs_makes (enters kcall87 (.cons rfl .nil)) (raClone_spec tb num un aa ad.length ac ad rfl (by omega)) rfl rfl rfl (row_of_sees (sees_row hpre.2.2.2.1)) (fun ⟨aa2, ac2, NA2⟩ hca => ?_)
                      have hca : Own 3 1 aa2 ad.length ac2 (ad.map I64) NA2 := hca
                      refine gx_perm List.perm_append_comm ?_
                      refine ga_branch (rs := [12]) (by kernel_rfl) rfl (.cons (ls' := [true, true, true, true, true, true, true, true, true, true, true, true, true, false, false, false, false, false, false, false, false, false]) rfl rfl ?_ .nil)
                      refine gs_val (val_load1 kag152 rfl ((sees_row hpre.1).part 2) rfl) rfl rfl rfl ?_
                      refine ga_take (i := 13) (ls' := [true, true, true, true, true, true, true, true, true, true, true, true, true, true, false, false, false, false, false, false, false, false]) rfl (by kernel_rfl) rfl (fun _ _ _ => val_nilCheck rfl) rfl rfl rfl ?_
                      refine ga_take (i := 14) (ls' := [true, true, true, true, true, true, true, true, true, true, true, true, true, true, true, false, false, false, false, false, false, false]) rfl (by kernel_rfl) rfl (fun _ _ _ => val_fieldAddr kfo157_1 rfl) rfl rfl rfl ?_
                      refine gx_env (F := [(0, _), (2, _), (3, _), (4, _), (5, _), (6, _), (7, _), (8, _), (9, _), (10, _), (11, _), (12, _), (13, _), (14, _), (15, _), (16, _), (17, _), (18, _), (19, _), (20, _), (21, _), (22, _), (23, _), (24, _), (25, _), (26, _), (27, _), (28, _), (29, _), (30, _), (31, _), (32, _), (33, _)]) (.cons rfl (.cons rfl (.cons rfl (.cons rfl (.cons rfl (.cons rfl (.cons rfl (.cons rfl (.cons rfl (.cons rfl (.cons rfl (.cons rfl (.cons rfl (.cons rfl (.cons rfl (.cons rfl (.cons rfl (.cons rfl (.cons rfl (.cons rfl (.cons rfl (.cons rfl (.cons rfl (.cons rfl (.cons rfl (.cons rfl (.cons rfl (.cons rfl (.cons rfl (.cons rfl (.cons rfl (.cons rfl (.cons rfl .nil))))))))))))))))))))))))))))))))) (gx_perm (by first | exact .refl _ | (repeat (first | exact .refl _ | refine perm_take (by first | exact .head | exact .tail .head | exact .tail (.tail .head) | exact .tail (.tail (.tail .head)) | exact .tail (.tail (.tail (.tail .head))) | exact .tail (.tail (.tail (.tail (.tail .head))))) ?_ | refine perm_takeL (by repeat (first | exact .app | exact .here | apply TakeL.tail | apply TakeL.appr)) ?_ | refine perm_takeX (by repeat (first | exact .cons .head .nil | apply TakeL.tail | apply TakeL.appr)) ?_))) (hD1 aa2 ac2 NA2 (And.intro hca True.intro)))
                    · skip
                      refine gs_val (val_load1 kag152 rfl ((sees_row hpre.1).part 2) rfl) rfl rfl rfl ?_
                      refine ga_take (i := 13) (ls' := [true, true, true, true, true, true, true, true, false, true, true, true, true, true, false, false, false, false, false, false, false, false]) rfl (by kernel_rfl) rfl (fun _ _ _ => val_nilCheck rfl) rfl rfl rfl ?_
                      refine ga_take (i := 14) (ls' := [true, true, true, true, true, true, true, true, false, true, true, true, true, true, true, false, false, false, false, false, false, false]) rfl (by kernel_rfl) rfl (fun _ _ _ => val_fieldAddr kfo157_1 rfl) rfl rfl rfl ?_
                      refine gx_env (F := [(0, _), (2, _), (3, _), (4, _), (5, _), (6, _), (7, _), (8, _), (9, _), (10, _), (11, _), (12, _), (13, _), (14, _), (15, _), (16, _), (17, _), (18, _), (19, _), (20, _), (21, _), (22, _), (23, _), (24, _), (25, _), (26, _), (28, _), (29, _), (30, _), (31, _), (32, _), (33, _)]) (.cons rfl (.cons rfl (.cons rfl (.cons rfl (.cons rfl (.cons rfl (.cons rfl (.cons rfl (.cons rfl (.cons rfl (.cons rfl (.cons rfl (.cons rfl (.cons rfl (.cons rfl (.cons rfl (.cons rfl (.cons rfl (.cons rfl (.cons rfl (.cons rfl (.cons rfl (.cons rfl (.cons rfl (.cons rfl (.cons rfl (.cons rfl (.cons rfl (.cons rfl (.cons rfl (.cons rfl (.cons rfl .nil)))))))))))))))))))))))))))))))) (gx_perm (by first | exact .refl _ | (repeat (first | exact .refl _ | refine perm_take (by first | exact .head | exact .tail .head | exact .tail (.tail .head) | exact .tail (.tail (.tail .head)) | exact .tail (.tail (.tail (.tail .head))) | exact .tail (.tail (.tail (.tail (.tail .head))))) ?_ | refine perm_takeL (by repeat (first | exact .app | exact .here | apply TakeL.tail | apply TakeL.appr)) ?_ | refine perm_takeX (by repeat (first | exact .cons .head .nil | apply TakeL.tail | apply TakeL.appr)) ?_))) (hD3  True.intro))
                  · skip
                    refine gs_val (val_load1 kag152 rfl ((sees_row hpre.1).part 2) rfl) rfl rfl rfl ?_
                    refine ga_take (i := 13) (ls' := [true, true, true, true, true, true, true, false, false, true, true, true, true, true, false, false, false, false, false, false, false, false]) rfl (by kernel_rfl) rfl (fun _ _ _ => val_nilCheck rfl) rfl rfl rfl ?_
                    refine ga_take (i := 14) (ls' := [true, true, true, true, true, true, true, false, false, true, true, true, true, true, true, false, false, false, false, false, false, false]) rfl (by kernel_rfl) rfl (fun _ _ _ => val_fieldAddr kfo157_1 rfl) rfl rfl rfl ?_
                    refine gx_env (F := [(0, _), (2, _), (3, _), (4, _), (5, _), (6, _), (7, _), (8, _), (9, _), (10, _), (11, _), (12, _), (13, _), (14, _), (15, _), (16, _), (17, _), (18, _), (19, _), (20, _), (21, _), (22, _), (23, _), (24, _), (25, _), (28, _), (29, _), (30, _), (31, _), (32, _), (33, _)]) (.cons rfl (.cons rfl (.cons rfl (.cons rfl (.cons rfl (.cons rfl (.cons rfl (.cons rfl (.cons rfl (.cons rfl (.cons rfl (.cons rfl (.cons rfl (.cons rfl (.cons rfl (.cons rfl (.cons rfl (.cons rfl (.cons rfl (.cons rfl (.cons rfl (.cons rfl (.cons rfl (.cons rfl (.cons rfl (.cons rfl (.cons rfl (.cons rfl (.cons rfl (.cons rfl (.cons rfl .nil))))))))))))))))))))))))))))))) (gx_perm (by first | exact .refl _ | (repeat (first | exact .refl _ | refine perm_take (by first | exact .head | exact .tail .head | exact .tail (.tail .head) | exact .tail (.tail (.tail .head)) | exact .tail (.tail (.tail (.tail .head))) | exact .tail (.tail (.tail (.tail (.tail .head))))) ?_ | refine perm_takeL (by repeat (first | exact .app | exact .here | apply TakeL.tail | apply TakeL.appr)) ?_ | refine perm_takeX (by repeat (first | exact .cons .head .nil | apply TakeL.tail | apply TakeL.appr)) ?_))) (hD5  True.intro))
                · skip
                  refine gs_val (val_load1 kag152 rfl ((sees_row hpre.1).part 2) rfl) rfl rfl rfl ?_
                  refine ga_take (i := 13) (ls' := [true, true, true, true, false, false, false, false, false, true, true, true, true, true, false, false, false, false, false, false, false, false]) rfl (by kernel_rfl) rfl (fun _ _ _ => val_nilCheck rfl) rfl rfl rfl ?_
                  refine ga_take (i := 14) (ls' := [true, true, true, true, false, false, false, false, false, true, true, true, true, true, true, false, false, false, false, false, false, false]) rfl (by kernel_rfl) rfl (fun _ _ _ => val_fieldAddr kfo157_1 rfl) rfl rfl rfl ?_
                  refine ga_branch (rs := [4, 15]) (by kernel_rfl) rfl (.cons (ls' := [true, true, true, true, true, false, false, false, false, true, true, true, true, true, true, false, false, false, false, false, false, false]) rfl rfl ?_ (.cons (ls' := [true, true, true, true, false, false, false, false, false, true, true, true, true, true, true, true, false, false, false, false, false, false]) rfl rfl ?_ .nil))
                  · skip
                    refine gs_val (val_load1 kag152 rfl ((sees_row hpre.1).part 2) rfl) rfl rfl rfl ?_
                    refine ga_take (i := 5) (ls' := [true, true, true, true, true, true, false, false, false, true, true, true, true, true, true, false, false, false, false, false, false, false]) rfl (by kernel_rfl) rfl (fun _ _ _ => val_nilCheck rfl) rfl rfl rfl ?_
                    refine ga_take (i := 6) (ls' := [true, true, true, true, true, true, true, false, false, true, true, true, true, true, true, false, false, false, false, false, false, false]) rfl (by kernel_rfl) rfl (fun _ _ _ => val_fieldAddr kfo157_0 rfl) rfl rfl rfl ?_
                    refine gx_env (F := [(0, _), (2, _), (3, _), (4, _), (5, _), (6, _), (7, _), (8, _), (9, _), (10, _), (11, _), (12, _), (13, _), (14, _), (15, _), (16, _), (17, _), (18, _), (19, _), (20, _), (21, _), (22, _), (23, _), (24, _), (25, _), (28, _), (29, _), (30, _), (31, _), (32, _), (33, _)]) (.cons rfl (.cons rfl (.cons rfl (.cons rfl (.cons rfl (.cons rfl (.cons rfl (.cons rfl (.cons rfl (.cons rfl (.cons rfl (.cons rfl (.cons rfl (.cons rfl (.cons rfl (.cons rfl (.cons rfl (.cons rfl (.cons rfl (.cons rfl (.cons rfl (.cons rfl (.cons rfl (.cons rfl (.cons rfl (.cons rfl (.cons rfl (.cons rfl (.cons rfl (.cons rfl (.cons rfl .nil))))))))))))))))))))))))))))))) (gx_perm (by first | exact .refl _ | (repeat (first | exact .refl _ | refine perm_take (by first | exact .head | exact .tail .head | exact .tail (.tail .head) | exact .tail (.tail (.tail .head)) | exact .tail (.tail (.tail (.tail .head))) | exact .tail (.tail (.tail (.tail (.tail .head))))) ?_ | refine perm_takeL (by repeat (first | exact .app | exact .here | apply TakeL.tail | apply TakeL.appr)) ?_ | refine perm_takeX (by repeat (first | exact .cons .head .nil | apply TakeL.tail | apply TakeL.appr)) ?_))) (hD5  True.intro))
                  · skip
                    refine gs_val (val_load1 kag55 rfl ((sees_row hpre.2.2.1).part 11) rfl) rfl rfl rfl ?_
                    refine ga_branch (rs := [4]) (by kernel_rfl) rfl (.cons (ls' := [true, true, true, true, true, false, false, false, false, true, true, true, true, true, true, true, false, false, false, false, false, false]) rfl rfl ?_ .nil)
                    refine gs_val (val_load1 kag152 rfl ((sees_row hpre.1).part 2) rfl) rfl rfl rfl ?_
                    refine ga_take (i := 5) (ls' := [true, true, true, true, true, true, false, false, false, true, true, true, true, true, true, true, false, false, false, false, false, false]) rfl (by kernel_rfl) rfl (fun _ _ _ => val_nilCheck rfl) rfl rfl rfl ?_
                    refine ga_take (i := 6) (ls' := [true, true, true, true, true, true, true, false, false, true, true, true, true, true, true, true, false, false, false, false, false, false]) rfl (by kernel_rfl) rfl (fun _ _ _ => val_fieldAddr kfo157_0 rfl) rfl rfl rfl ?_
                    refine gx_env (F := [(0, _), (2, _), (3, _), (4, _), (5, _), (6, _), (7, _), (8, _), (9, _), (10, _), (11, _), (12, _), (13, _), (14, _), (15, _), (16, _), (17, _), (18, _), (19, _), (20, _), (21, _), (22, _), (23, _), (24, _), (25, _), (28, _), (29, _), (30, _), (31, _), (32, _), (33, _), (34, _)]) (.cons rfl (.cons rfl (.cons rfl (.cons rfl (.cons rfl (.cons rfl (.cons rfl (.cons rfl (.cons rfl (.cons rfl (.cons rfl (.cons rfl (.cons rfl (.cons rfl (.cons rfl (.cons rfl (.cons rfl (.cons rfl (.cons rfl (.cons rfl (.cons rfl (.cons rfl (.cons rfl (.cons rfl (.cons rfl (.cons rfl (.cons rfl (.cons rfl (.cons rfl (.cons rfl (.cons rfl (.cons rfl .nil)))))))))))))))))))))))))))))))) (gx_perm (by first | exact .refl _ | (repeat (first | exact .refl _ | refine perm_take (by first | exact .head | exact .tail .head | exact .tail (.tail .head) | exact .tail (.tail (.tail .head)) | exact .tail (.tail (.tail (.tail .head))) | exact .tail (.tail (.tail (.tail (.tail .head))))) ?_ | refine perm_takeL (by repeat (first | exact .app | exact .here | apply TakeL.tail | apply TakeL.appr)) ?_ | refine perm_takeX (by repeat (first | exact .cons .head .nil | apply TakeL.tail | apply TakeL.appr)) ?_))) (hD4  True.intro))
              · rintro  _
                refine ga_branch (rs := [7, 15]) (by kernel_rfl) rfl (.cons (ls' := [true, true, true, true, true, true, true, true, false, true, true, true, true, true, true, false, false, false, false, false, false, false]) rfl rfl ?_ (.cons (ls' := [true, true, true, true, true, true, true, false, false, true, true, true, true, true, true, true, false, false, false, false, false, false]) rfl rfl ?_ .nil))
                · skip
                  refine gs_val (val_loadA (ds := raL tb num (.slice aa ad.length ac) un) kag33 rfl (sees_row hpre.2.2.1) rfl rfl) rfl rfl rfl ?_
                  refine gx_env (F := [(0, _), (2, _), (3, _), (4, _), (5, _), (6, _), (7, _), (8, _), (9, _), (10, _), (11, _), (12, _), (13, _), (14, _), (15, _), (16, _), (17, _), (18, _), (19, _), (20, _), (21, _), (22, _), (23, _), (24, _), (25, _), (26, _), (28, _), (29, _), (30, _), (31, _), (32, _), (33, _)]) (.cons rfl (.cons rfl (.cons rfl (.cons rfl (.cons rfl (.cons rfl (.cons rfl (.cons rfl (.cons rfl (.cons rfl (.cons rfl (.cons rfl (.cons rfl (.cons rfl (.cons rfl (.cons rfl (.cons rfl (.cons rfl (.cons rfl (.cons rfl (.cons rfl (.cons rfl (.cons rfl (.cons rfl (.cons rfl (.cons rfl (.cons rfl (.cons rfl (.cons rfl (.cons rfl (.cons rfl (.cons rfl .nil)))))))))))))))))))))))))))))))) (gx_perm (by first | exact .refl _ | (repeat (first | exact .refl _ | refine perm_take (by first | exact .head | exact .tail .head | exact .tail (.tail .head) | exact .tail (.tail (.tail .head)) | exact .tail (.tail (.tail (.tail .head))) | exact .tail (.tail (.tail (.tail (.tail .head))))) ?_ | refine perm_takeL (by repeat (first | exact .app | exact .here | apply TakeL.tail | apply TakeL.appr)) ?_ | refine perm_takeX (by repeat (first | exact .cons .head .nil | apply TakeL.tail | apply TakeL.appr)) ?_))) (hD3  True.intro))
                · skip
                  refine gs_val (val_load1 kag55 rfl ((sees_row hpre.2.2.1).part 11) rfl) rfl rfl rfl ?_
                  refine gx_env (F := [(0, _), (2, _), (3, _), (4, _), (5, _), (6, _), (7, _), (8, _), (9, _), (10, _), (11, _), (12, _), (13, _), (14, _), (15, _), (16, _), (17, _), (18, _), (19, _), (20, _), (21, _), (22, _), (23, _), (24, _), (25, _), (28, _), (29, _), (30, _), (31, _), (32, _), (33, _), (34, _)]) (.cons rfl (.cons rfl (.cons rfl (.cons rfl (.cons rfl (.cons rfl (.cons rfl (.cons rfl (.cons rfl (.cons rfl (.cons rfl (.cons rfl (.cons rfl (.cons rfl (.cons rfl (.cons rfl (.cons rfl (.cons rfl (.cons rfl (.cons rfl (.cons rfl (.cons rfl (.cons rfl (.cons rfl (.cons rfl (.cons rfl (.cons rfl (.cons rfl (.cons rfl (.cons rfl (.cons rfl (.cons rfl .nil)))))))))))))))))))))))))))))))) (gx_perm (by first | exact .refl _ | (repeat (first | exact .refl _ | refine perm_take (by first | exact .head | exact .tail .head | exact .tail (.tail .head) | exact .tail (.tail (.tail .head)) | exact .tail (.tail (.tail (.tail .head))) | exact .tail (.tail (.tail (.tail (.tail .head))))) ?_ | refine perm_takeL (by repeat (first | exact .app | exact .here | apply TakeL.tail | apply TakeL.appr)) ?_ | refine perm_takeX (by repeat (first | exact .cons .head .nil | apply TakeL.tail | apply TakeL.appr)) ?_))) (hD4  True.intro))
            · rintro  _
              refine ga_branch (rs := [7]) (by kernel_rfl) rfl (.cons (ls' := [true, true, true, true, true, true, true, true, false, true, true, true, true, true, true, true, false, false, false, false, false, false]) rfl rfl ?_ .nil)
              refine gs_val (val_loadA (ds := raL tb num (.slice aa ad.length ac) un) kag33 rfl (sees_row hpre.2.2.1) rfl rfl) rfl rfl rfl ?_
              refine gx_env (F := [(0, _), (2, _), (3, _), (4, _), (5, _), (6, _), (7, _), (8, _), (9, _), (10, _), (11, _), (12, _), (13, _), (14, _), (15, _), (16, _), (17, _), (18, _), (19, _), (20, _), (21, _), (22, _), (23, _), (24, _), (25, _), (26, _), (28, _), (29, _), (30, _), (31, _), (32, _), (33, _), (34, _)]) (.cons rfl (.cons rfl (.cons rfl (.cons rfl (.cons rfl (.cons rfl (.cons rfl (.cons rfl (.cons rfl (.cons rfl (.cons rfl (.cons rfl (.cons rfl (.cons rfl (.cons rfl (.cons rfl (.cons rfl (.cons rfl (.cons rfl (.cons rfl (.cons rfl (.cons rfl (.cons rfl (.cons rfl (.cons rfl (.cons rfl (.cons rfl (.cons rfl (.cons rfl (.cons rfl (.cons rfl (.cons rfl (.cons rfl .nil))))))))))))))))))))))))))))))))) (gx_perm (by first | exact .refl _ | (repeat (first | exact .refl _ | refine perm_take (by first | exact .head | exact .tail .head | exact .tail (.tail .head) | exact .tail (.tail (.tail .head)) | exact .tail (.tail (.tail (.tail .head))) | exact .tail (.tail (.tail (.tail (.tail .head))))) ?_ | refine perm_takeL (by repeat (first | exact .app | exact .here | apply TakeL.tail | apply TakeL.appr)) ?_ | refine perm_takeX (by repeat (first | exact .cons .head .nil | apply TakeL.tail | apply TakeL.appr)) ?_))) (hD2  True.intro))
          · rintro  _
            refine ga_branch (rs := [8, 15]) (by kernel_rfl) rfl (.cons (ls' := [true, true, true, true, true, true, true, true, true, true, true, true, true, true, true, false, false, false, false, false, false, false]) rfl rfl ?_ (.cons (ls' := [true, true, true, true, true, true, true, true, false, true, true, true, true, true, true, true, false, false, false, false, false, false]) rfl rfl ?_ .nil))
            · skip
              refine gs_makes (enters kcall87 (.cons rfl .nil)) (raClone_spec tb num un aa ad.length ac ad rfl (by omega)) rfl rfl rfl (row_of_sees (sees_row hpre.2.2.2.1)) (fun ⟨aa2, ac2, NA2⟩ hca => ?_)
              have hca : Own 3 1 aa2 ad.length ac2 (ad.map I64) NA2 := hca
              refine gx_perm List.perm_append_comm ?_
              refine gx_env (F := [(0, _), (2, _), (3, _), (4, _), (5, _), (6, _), (7, _), (8, _), (9, _), (10, _), (11, _), (12, _), (13, _), (14, _), (15, _), (16, _), (17, _), (18, _), (19, _), (20, _), (21, _), (22, _), (23, _), (24, _), (25, _), (26, _), (27, _), (28, _), (29, _), (30, _), (31, _), (32, _), (33, _)]) (.cons rfl (.cons rfl (.cons rfl (.cons rfl (.cons rfl (.cons rfl (.cons rfl (.cons rfl (.cons rfl (.cons rfl (.cons rfl (.cons rfl (.cons rfl (.cons rfl (.cons rfl (.cons rfl (.cons rfl (.cons rfl (.cons rfl (.cons rfl (.cons rfl (.cons rfl (.cons rfl (.cons rfl (.cons rfl (.cons rfl (.cons rfl (.cons rfl (.cons rfl (.cons rfl (.cons rfl (.cons rfl (.cons rfl .nil))))))))))))))))))))))))))))))))) (gx_perm (by first | exact .refl _ | (repeat (first | exact .refl _ | refine perm_take (by first | exact .head | exact .tail .head | exact .tail (.tail .head) | exact .tail (.tail (.tail .head)) | exact .tail (.tail (.tail (.tail .head))) | exact .tail (.tail (.tail (.tail (.tail .head))))) ?_ | refine perm_takeL (by repeat (first | exact .app | exact .here | apply TakeL.tail | apply TakeL.appr)) ?_ | refine perm_takeX (by repeat (first | exact .cons .head .nil | apply TakeL.tail | apply TakeL.appr)) ?_))) (hD1 aa2 ac2 NA2 (And.intro hca True.intro)))
            · skip
              refine gs_val (val_load1 kag55 rfl ((sees_row hpre.2.2.1).part 11) rfl) rfl rfl rfl ?_
              refine gx_env (F := [(0, _), (2, _), (3, _), (4, _), (5, _), (6, _), (7, _), (8, _), (9, _), (10, _), (11, _), (12, _), (13, _), (14, _), (15, _), (16, _), (17, _), (18, _), (19, _), (20, _), (21, _), (22, _), (23, _), (24, _), (25, _), (26, _), (28, _), (29, _), (30, _), (31, _), (32, _), (33, _), (34, _)]) (.cons rfl (.cons rfl (.cons rfl (.cons rfl (.cons rfl (.cons rfl (.cons rfl (.cons rfl (.cons rfl (.cons rfl (.cons rfl (.cons rfl (.cons rfl (.cons rfl (.cons rfl (.cons rfl (.cons rfl (.cons rfl (.cons rfl (.cons rfl (.cons rfl (.cons rfl (.cons rfl (.cons rfl (.cons rfl (.cons rfl (.cons rfl (.cons rfl (.cons rfl (.cons rfl (.cons rfl (.cons rfl (.cons rfl .nil))))))))))))))))))))))))))))))))) (gx_perm (by first | exact .refl _ | (repeat (first | exact .refl _ | refine perm_take (by first | exact .head | exact .tail .head | exact .tail (.tail .head) | exact .tail (.tail (.tail .head)) | exact .tail (.tail (.tail (.tail .head))) | exact .tail (.tail (.tail (.tail (.tail .head))))) ?_ | refine perm_takeL (by repeat (first | exact .app | exact .here | apply TakeL.tail | apply TakeL.appr)) ?_ | refine perm_takeX (by repeat (first | exact .cons .head .nil | apply TakeL.tail | apply TakeL.appr)) ?_))) (hD2  True.intro))
        · rintro  _
          refine ga_branch (rs := [8]) (by kernel_rfl) rfl (.cons (ls' := [true, true, true, true, true, true, true, true, true, true, true, true, true, true, true, true, false, false, false, false, false, false]) rfl rfl ?_ .nil)
          refine gs_makes (enters kcall87 (.cons rfl .nil)) (raClone_spec tb num un aa ad.length ac ad rfl (by omega)) rfl rfl rfl (row_of_sees (sees_row hpre.2.2.2.1)) (fun ⟨aa2, ac2, NA2⟩ hca => ?_)
          have hca : Own 3 1 aa2 ad.length ac2 (ad.map I64) NA2 := hca
          refine gx_perm List.perm_append_comm ?_
          refine gx_env (F := [(0, _), (2, _), (3, _), (4, _), (5, _), (6, _), (7, _), (8, _), (9, _), (10, _), (11, _), (12, _), (13, _), (14, _), (15, _), (16, _), (17, _), (18, _), (19, _), (20, _), (21, _), (22, _), (23, _), (24, _), (25, _), (26, _), (27, _), (28, _), (29, _), (30, _), (31, _), (32, _), (33, _), (34, _)]) (.cons rfl (.cons rfl (.cons rfl (.cons rfl (.cons rfl (.cons rfl (.cons rfl (.cons rfl (.cons rfl (.cons rfl (.cons rfl (.cons rfl (.cons rfl (.cons rfl (.cons rfl (.cons rfl (.cons rfl (.cons rfl (.cons rfl (.cons rfl (.cons rfl (.cons rfl (.cons rfl (.cons rfl (.cons rfl (.cons rfl (.cons rfl (.cons rfl (.cons rfl (.cons rfl (.cons rfl (.cons rfl (.cons rfl (.cons rfl .nil)))))))))))))))))))))))))))))))))) (gx_perm (by first | exact .refl _ | (repeat (first | exact .refl _ | refine perm_take (by first | exact .head | exact .tail .head | exact .tail (.tail .head) | exact .tail (.tail (.tail .head)) | exact .tail (.tail (.tail (.tail .head))) | exact .tail (.tail (.tail (.tail (.tail .head))))) ?_ | refine perm_takeL (by repeat (first | exact .app | exact .here | apply TakeL.tail | apply TakeL.appr)) ?_ | refine perm_takeX (by repeat (first | exact .cons .head .nil | apply TakeL.tail | apply TakeL.appr)) ?_))) (hD0 aa2 ac2 NA2 (And.intro hca True.intro)))
      · rintro aa2 ac2 NA2 ⟨hca, _⟩
        refine ga_branch (rs := [15]) (by kernel_rfl) rfl (.cons (ls' := [true, true, true, true, true, true, true, true, true, true, true, true, true, true, true, true, false, false, false, false, false, false]) rfl rfl ?_ .nil)
        refine gs_val (val_load1 kag55 rfl ((sees_row hpre.2.2.1).part 11) rfl) rfl rfl rfl ?_
        refine gx_env (F := [(0, _), (2, _), (3, _), (4, _), (5, _), (6, _), (7, _), (8, _), (9, _), (10, _), (11, _), (12, _), (13, _), (14, _), (15, _), (16, _), (17, _), (18, _), (19, _), (20, _), (21, _), (22, _), (23, _), (24, _), (25, _), (26, _), (27, _), (28, _), (29, _), (30, _), (31, _), (32, _), (33, _), (34, _)]) (.cons rfl (.cons rfl (.cons rfl (.cons rfl (.cons rfl (.cons rfl (.cons rfl (.cons rfl (.cons rfl (.cons rfl (.cons rfl (.cons rfl (.cons rfl (.cons rfl (.cons rfl (.cons rfl (.cons rfl (.cons rfl (.cons rfl (.cons rfl (.cons rfl (.cons rfl (.cons rfl (.cons rfl (.cons rfl (.cons rfl (.cons rfl (.cons rfl (.cons rfl (.cons rfl (.cons rfl (.cons rfl (.cons rfl (.cons rfl .nil)))))))))))))))))))))))))))))))))) (gx_perm (by first | exact .refl _ | (repeat (first | exact .refl _ | refine perm_take (by first | exact .head | exact .tail .head | exact .tail (.tail .head) | exact .tail (.tail (.tail .head)) | exact .tail (.tail (.tail (.tail .head))) | exact .tail (.tail (.tail (.tail (.tail .head))))) ?_ | refine perm_takeL (by repeat (first | exact .app | exact .here | apply TakeL.tail | apply TakeL.appr)) ?_ | refine perm_takeX (by repeat (first | exact .cons .head .nil | apply TakeL.tail | apply TakeL.appr)) ?_))) (hD0 aa2 ac2 NA2 (And.intro hca True.intro)))
    · rintro aa2 ac2 NA2 ⟨hca, _⟩
      refine ga_branch (rs := [16]) (by kernel_rfl) rfl (.cons (ls' := [true, true, true, true, true, true, true, true, true, true, true, true, true, true, true, true, true, false, false, false, false, false]) rfl rfl ?_ .nil)
      refine gs_makes (enters kcall109 (.cons rfl .nil)) (cloneO_spec pa pu.length pc pu rfl (by omega)) rfl rfl rfl (row_of_sees (sees_row hpre.2.2.2.2)) (fun ⟨pa2, pc2, NP2⟩ hcp => ?_)
      have hcp : Own 4 1 pa2 pu.length pc2 (pu.map Value.bool) NP2 := hcp
      refine gx_perm List.perm_append_comm ?_
      refine gx_perm (.refl (_ :: _)) ?_
      refine ga_take (i := 17) (ls' := [true, true, true, true, true, true, true, true, true, true, true, true, true, true, true, true, true, true, false, false, false, false]) rfl (by kernel_rfl) rfl (fun _ _ _ => val_buildStr kze157 kpl157 (.cons rfl (.cons rfl .nil)) rfl (.cons rfl rfl rfl (by simp) (by first | ((with_reducible refine splice_all _ _ ?_); simp; done) | (simp only [splice, stL, digL, List.take_succ_cons, List.take_zero, List.drop_succ_cons, List.drop_zero, List.length_cons, List.length_nil, Nat.reduceAdd, Nat.reduceMul, Nat.zero_add, Nat.zero_mul, List.cons_append, List.nil_append]; exact rfl)) (.cons rfl rfl rfl (by simp) (by first | ((with_reducible refine splice_all _ _ ?_); simp; done) | (simp only [splice, stL, digL, List.take_succ_cons, List.take_zero, List.drop_succ_cons, List.drop_zero, List.length_cons, List.length_nil, Nat.reduceAdd, Nat.reduceMul, Nat.zero_add, Nat.zero_mul, List.cons_append, List.nil_append]; exact rfl)) .nil))) rfl rfl rfl ?_
      refine ga_branch (rs := [18]) (by kernel_rfl) rfl (.cons (ls' := [true, true, true, true, true, true, true, true, true, true, true, true, true, true, true, true, true, true, true, false, false, false]) rfl rfl ?_ .nil)
      refine gs_box rfl rfl rfl rfl (fun pd2 => ?_)
      refine ga_take (i := 19) (ls' := [true, true, true, true, true, true, true, true, true, true, true, true, true, true, true, true, true, true, true, true, false, false]) rfl (by kernel_rfl) rfl (fun _ _ _ => val_nilCheck rfl) rfl rfl rfl ?_
      refine ga_take (i := 20) (ls' := [true, true, true, true, true, true, true, true, true, true, true, true, true, true, true, true, true, true, true, true, true, false]) rfl (by kernel_rfl) rfl (fun _ _ _ => val_fieldAddr kfo154_2 rfl) rfl rfl rfl ?_
      refine ga_branch (rs := [21]) (by kernel_rfl) rfl (.cons (ls' := [true, true, true, true, true, true, true, true, true, true, true, true, true, true, true, true, true, true, true, true, true, true]) rfl rfl ?_ .nil)
      refine gs_store ksz152 rfl rfl rfl rfl rfl rfl (by first | exact .head | exact .tail .head | exact .tail (.tail .head) | exact .tail (.tail (.tail .head)) | exact .tail (.tail (.tail (.tail .head))) | exact .tail (.tail (.tail (.tail (.tail .head))))) (by simp) (by first | ((with_reducible refine splice_all _ _ ?_); simp; done) | (simp only [splice, stL, digL, List.take_succ_cons, List.take_zero, List.drop_succ_cons, List.drop_zero, List.length_cons, List.length_nil, Nat.reduceAdd, Nat.reduceMul, Nat.zero_add, Nat.zero_mul, List.cons_append, List.nil_append]; exact rfl)) ?_
      refine ga_done (by kernel_rfl) ?_
      refine gk_seq ?_
      refine gc_seq ?_
      refine gc_region ?_
      refine gl_cons (gs_val (val_move rfl) rfl rfl rfl ?_)
      refine gl_cons (gs_val (val_assign rfl) rfl rfl rfl ?_)
      refine gl_nil ?_
      refine gk_seq ?_
      refine gc_ret ?_
      refine gk_perm (clone_perm _ _ NS2 NA2 NP2) ?_
      refine gk_ret rfl (resv_tmp rfl .nil) (List.Sublist.refl _) ?_
      exact ⟨(cb, _), ⟨sa2, sc2, NS2, hs2, pd2, aa2, ac2, NA2, pa2, pc2, NP2, ⟨hca, hcp⟩, rfl⟩, rfl, rfl⟩

theorem cloneK_spec (b : Nat) (s : BS) (L0 : List Ent) (hbk : BK 154 157 3 4 b s L0) (hok : BOk s) : Turns Try.prog 34 ([.pointer (some ⟨b, 0, none⟩)]).toArray (fun _ => True) L0 (fun t : Nat × List Ent => BK 154 157 3 4 t.1 s t.2) (fun t => .pointer (some ⟨t.1, 0, none⟩)) (fun t => t.2 ++ L0) := by
  obtain ⟨sa, sc, NS, sx, hm⟩ := hbk
  have hst := hok.st
  have h8 := hok.n8
  have h9 := hok.ad
  obtain ⟨st, nm, op⟩ := s
  cases op with
  | none =>
    subst hm
    exact turns_of_makesL (cloneBk_none b sa sc nm st h8) (fun w hi hr => ⟨row_of_sees (sees_all (by repeat (first | exact .head _ | refine .tail _ ?_ | refine List.mem_append_right _ ?_))) w hi, row_of_sees (sx.look (by repeat (first | exact .here | exact .headR | exact .app | refine .tail ?_ | refine .appr ?_))) w hi⟩)
  | some o =>
    obtain ⟨p, aa, ac, NA, pa, pc, NP, hm, rfl⟩ := hm
    obtain ⟨tb, num, ad, un, pu⟩ := o
    obtain ⟨q1, q2, q3, q4⟩ := h9 _ rfl
    have q1 : ad.length = st.length := q1
    have q2 : pu.length = st.length := q2
    have h8 : st.length ≤ 8 := h8
    exact turns_of_makesL (cloneBk_some b sa sc nm st h8 p tb num un aa pa ac pc ad pu (by omega) (by omega)) (fun w hi hr => ⟨row_of_sees (sees_all (by repeat (first | exact .head _ | refine .tail _ ?_ | refine List.mem_append_right _ ?_))) w hi, row_of_sees (sx.look (by repeat (first | exact .here | exact .headR | exact .app | refine .tail ?_ | refine .appr ?_))) w hi, row_of_sees (sees_all (by repeat (first | exact .head _ | refine .tail _ ?_ | refine List.mem_append_right _ ?_))) w hi, row_of_sees (hm.ad.look (by repeat (first | exact .here | exact .headR | exact .app | refine .tail ?_ | refine .appr ?_))) w hi, row_of_sees (hm.pu.look (by repeat (first | exact .here | exact .headR | exact .app | refine .tail ?_ | refine .appr ?_))) w hi⟩)

end Go.Proofs.Ytddckbhlfeegoaa
