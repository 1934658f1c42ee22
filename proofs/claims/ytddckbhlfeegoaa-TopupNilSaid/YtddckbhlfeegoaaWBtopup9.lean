/- The walk of functions of the program: what each computes, for every input. -/
import Derived.Test.YtddckbhlfeegoaaWBFacts
import Derived.Test.YtddckbhlfeegoaaWBtopup8
namespace Go.Proofs.Ytddckbhlfeegoaa
open Go Go.Eng
set_option linter.unusedVariables false
set_option linter.unusedSimpArgs false

theorem backK_spec (b : Nat) (s : BS) (L0 : List Ent) (hbk : BK 154 157 3 4 b s L0) (hok : BOk s) (now seat : Int) : Turns Try.prog 28 ([.pointer (some ⟨b, 0, none⟩), I64 now, I64 seat]).toArray (fun _ => True) L0 (fun t : List Ent => BK 154 157 3 4 b (backS s now seat) t) (fun _ => .tuple #[I64 (backV s now seat), I64 (backE s now seat)]) (fun t => t) := by
  have hbk0 := hbk
  obtain ⟨sa, sc, NS, sx, hm⟩ := hbk
  have h2 := hok.n2
  have h8 := hok.n8
  have h9 := hok.ad
  obtain ⟨st, nm, op⟩ := s
  cases op with
  | none =>
    subst hm
    exact turns_mono (turns_of_pureL (back_none b sa sc nm st now seat) (fun w hi hr => row_of_sees (sees_all (by repeat (first | exact .head _ | refine .tail _ ?_ | refine List.mem_append_right _ ?_))) w hi)) (fun _ h => h) (fun _ _ => ⟨_, hbk0, rfl, rfl⟩)
  | some o =>
    obtain ⟨p, aa, ac, NA, pa, pc, NP, hm, rfl⟩ := hm
    obtain ⟨tb, num, ad, un, pu⟩ := o
    obtain ⟨q1, q2, q3, q4⟩ := h9 _ rfl
    have q1 : ad.length = st.length := q1
    have q2 : pu.length = st.length := q2
    have h8 : st.length ≤ 8 := h8
    have h2 : 2 ≤ st.length := h2
    by_cases he : backE ⟨st, nm, some ⟨tb, num, ad, un, pu⟩⟩ now seat = 0
    · have hr := (back_ok (o := ⟨tb, num, ad, un, pu⟩) rfl he).1
      have hr : 0 ≤ seat ∧ seat < (st.length : Int) := hr
      obtain ⟨i, rfl⟩ : ∃ i : Nat, seat = (i : Int) := ⟨seat.toNat, by omega⟩
      obtain ⟨q, rfl⟩ := own_addr hm.pu (show 0 < pu.length by omega)
      obtain ⟨pj, rfl, _⟩ := own_blk hm.pu
      have hi : i < ad.length := by omega
      have hv : backV ⟨st, nm, some ⟨tb, num, ad, un, pu⟩⟩ now (i : Int) = ad[i] := by unfold backV; rw [if_pos he]; exact getD_nat hi
      rw [hv, he]; unfold backS; rw [if_pos he]
      simp only [Int.toNat_natCast]
      by_cases hz : (laidL ad (pu.set i false)).sum = 0
      · rw [if_pos hz]
        exact back_zero b sa sc nm st now i p tb num un aa ac pc q ad pu pj NS NA q1 q2 h8 q3 sx hm he hi hz
      · rw [if_neg hz]
        exact back_more b sa sc nm st now i p tb num un aa ac pc q ad pu pj NS NA q1 q2 h8 q3 sx hm he hi hz
    · unfold backS backV; rw [if_neg he, if_neg he]
      exact turns_mono (turns_of_pureL (back_err b sa sc nm st now seat p tb num un aa pa ac pc ad pu q1 q2 h8 he) (fun w hi hr => ⟨row_of_sees (sees_all (by repeat (first | exact .head _ | refine .tail _ ?_ | refine List.mem_append_right _ ?_))) w hi, row_of_sees (sees_all (by repeat (first | exact .head _ | refine .tail _ ?_ | refine List.mem_append_right _ ?_))) w hi, row_of_sees (hm.ad.look (by repeat (first | exact .here | exact .headR | exact .app | refine .tail ?_ | refine .appr ?_))) w hi, row_of_sees (hm.pu.look (by repeat (first | exact .here | exact .headR | exact .app | refine .tail ?_ | refine .appr ?_))) w hi⟩)) (fun _ h => h) (fun _ _ => ⟨_, hbk0, rfl, rfl⟩)

theorem sum_nil : Pure Try.prog 85 ([.slice none 0 0]).toArray (fun w => Row w [] none (([] : List Int).map I64)) (I64 0) := sum_spec none 0 0 [] rfl (by decide) (by simp)

/-- (*baize/topup.Bank).Open -/
theorem open_nil  : Pure Try.prog 23 ([.pointer none]).toArray (fun _ => True) (.tuple #[.agg (raL 0#64 0 (.slice none 0 0) 0).toArray, .slice none 0 0, .bool false]) := by
  refine spec_walk (n := 28) Try.func23 rfl rfl rfl (fun w0 hpre => ?_)
  refine gc_seq ?_
  refine gc_region ?_
  refine gl_cons (gs_alloc kze33 rfl rfl rfl (fun b2 => ?_))
  refine gl_cons (gs_val (val_assign rfl) rfl rfl rfl ?_)
  refine gl_cons (gs_val (val_assign rfl) rfl rfl rfl ?_)
  refine gl_nil ?_
  refine gk_seq ?_
  refine gc_seq ?_
  refine gc_seq ?_
  refine gc_region ?_
  refine gl_cons (gs_val (val_move rfl) rfl rfl rfl ?_)
  refine gl_cons (gs_val (val_eqlNil kun24 rfl rfl) rfl rfl rfl ?_)
  refine gl_cons (gs_val (val_move rfl) rfl rfl rfl ?_)
  refine gl_cons (gs_skip rfl rfl rfl ?_)
  refine gl_cons (gs_skip rfl rfl rfl ?_)
  refine gl_cons (gs_skip rfl rfl rfl ?_)
  refine gl_cons (gs_skip rfl rfl rfl ?_)
  refine gl_cons (gs_skip rfl rfl rfl ?_)
  refine gl_cons (gs_val (val_pick_t rfl rfl) rfl rfl rfl ?_)
  refine gl_nil ?_
  refine gk_seq ?_
  refine gc_true rfl ?_
  refine gc_seq ?_
  refine gc_region ?_
  refine gl_cons (gs_val (val_buildStr kze33 kpl33 .nil rfl .nil) rfl rfl rfl ?_)
  refine gl_cons (gs_store ksz33 rfl rfl rfl rfl rfl rfl (by first | exact .head | exact .tail .head | exact .tail (.tail .head) | exact .tail (.tail (.tail .head)) | exact .tail (.tail (.tail (.tail .head))) | exact .tail (.tail (.tail (.tail (.tail .head))))) (by simp) (by first | ((with_reducible refine splice_all _ _ ?_); simp; done) | (simp only [splice, stL, digL, List.take_succ_cons, List.take_zero, List.drop_succ_cons, List.drop_zero, List.length_cons, List.length_nil, Nat.reduceAdd, Nat.reduceMul, Nat.zero_add, Nat.zero_mul, List.cons_append, List.nil_append]; exact rfl)) ?_)
  refine gl_cons (gs_val (val_assign rfl) rfl rfl rfl ?_)
  refine gl_cons (gs_val (val_assign rfl) rfl rfl rfl ?_)
  refine gl_nil ?_
  refine gk_seq ?_
  refine gc_ret ?_
  refine gk_seq_ret ?_
  refine gk_ret rfl (resv_cellA kag33 rfl (sees_mem (by repeat (first | exact .head _ | refine .tail _ ?_ | refine List.mem_append_right _ ?_))) rfl rfl (resv_tmp rfl (resv_tmp rfl .nil))) (List.nil_sublist _) ?_
  exact ⟨rfl, rfl⟩

/-- (*baize/topup.Bank).Open -/
theorem open_none (b : Nat) (sa : Option Addr) (n sc : Nat) (nm : Int) : Pure Try.prog 23 ([.pointer (some ⟨b, 0, none⟩)]).toArray (fun w => Row w [] (some ⟨b, 0, none⟩) (bkL (.slice sa n sc) nm (.pointer none))) (.tuple #[.agg (raL 0#64 0 (.slice none 0 0) 0).toArray, .slice none 0 0, .bool false]) := by
  refine spec_walk (n := 28) Try.func23 rfl rfl rfl (fun w0 hpre => ?_)
  refine gc_seq ?_
  refine gc_region ?_
  refine gl_cons (gs_alloc kze33 rfl rfl rfl (fun b2 => ?_))
  refine gl_cons (gs_val (val_assign rfl) rfl rfl rfl ?_)
  refine gl_cons (gs_val (val_assign rfl) rfl rfl rfl ?_)
  refine gl_nil ?_
  refine gk_seq ?_
  refine gc_seq ?_
  refine gc_seq ?_
  refine gc_region ?_
  refine gl_cons (gs_val (val_move rfl) rfl rfl rfl ?_)
  refine gl_cons (gs_val (val_eqlNil kun24 rfl rfl) rfl rfl rfl ?_)
  refine gl_cons (gs_val (val_move rfl) rfl rfl rfl ?_)
  refine gl_cons (gs_val (val_move rfl) rfl rfl rfl ?_)
  refine gl_cons (gs_val (val_nilCheck rfl) rfl rfl rfl ?_)
  refine gl_cons (gs_val (val_fieldAddr kfo154_2 rfl) rfl rfl rfl ?_)
  refine gl_cons (gs_val (val_load1 kag152 rfl ((sees_row hpre).part 2) rfl) rfl rfl rfl ?_)
  refine gl_cons (gs_val (val_eqlNil kun152 rfl rfl) rfl rfl rfl ?_)
  refine gl_cons (gs_val (val_pick_f rfl rfl) rfl rfl rfl ?_)
  refine gl_nil ?_
  refine gk_seq ?_
  refine gc_true rfl ?_
  refine gc_seq ?_
  refine gc_region ?_
  refine gl_cons (gs_val (val_buildStr kze33 kpl33 .nil rfl .nil) rfl rfl rfl ?_)
  refine gl_cons (gs_store ksz33 rfl rfl rfl rfl rfl rfl (by first | exact .head | exact .tail .head | exact .tail (.tail .head) | exact .tail (.tail (.tail .head)) | exact .tail (.tail (.tail (.tail .head))) | exact .tail (.tail (.tail (.tail (.tail .head))))) (by simp) (by first | ((with_reducible refine splice_all _ _ ?_); simp; done) | (simp only [splice, stL, digL, List.take_succ_cons, List.take_zero, List.drop_succ_cons, List.drop_zero, List.length_cons, List.length_nil, Nat.reduceAdd, Nat.reduceMul, Nat.zero_add, Nat.zero_mul, List.cons_append, List.nil_append]; exact rfl)) ?_)
  refine gl_cons (gs_val (val_assign rfl) rfl rfl rfl ?_)
  refine gl_cons (gs_val (val_assign rfl) rfl rfl rfl ?_)
  refine gl_nil ?_
  refine gk_seq ?_
  refine gc_ret ?_
  refine gk_seq_ret ?_
  refine gk_ret rfl (resv_cellA kag33 rfl (sees_mem (by repeat (first | exact .head _ | refine .tail _ ?_ | refine List.mem_append_right _ ?_))) rfl rfl (resv_tmp rfl (resv_tmp rfl .nil))) (List.nil_sublist _) ?_
  exact ⟨rfl, rfl⟩

/-- (*baize/topup.Bank).Open -/
theorem open_some (b : Nat) (sa : Option Addr) (n sc : Nat) (nm : Int) (p : Nat) (tb : BitVec 64) (num un : Int) (aa pa : Option Addr) (an ac pn pc : Nat) (ad : List Int) (pu : List Bool) (haa : ad.length = an) (hpp : pu.length = pn) (hap : an = pn) (hb : an ≤ 100) : Makes Try.prog 23 ([.pointer (some ⟨b, 0, none⟩)]).toArray (fun w => Row w [] (some ⟨b, 0, none⟩) (bkL (.slice sa n sc) nm (.pointer (some ⟨p, 0, none⟩))) ∧ Row w [] (some ⟨p, 0, none⟩) (pdL tb num (.slice aa an ac) un (.slice pa pn pc)) ∧ Row w [] aa (ad.map I64) ∧ Row w [] pa (pu.map Value.bool)) (fun s : Option Addr × Nat × List Ent × Nat => Own 3 1 s.1 an s.2.1 (ad.map I64) s.2.2.1) (fun s => .tuple #[.agg (raL tb num (.slice s.1 an s.2.1) un).toArray, .slice (some ⟨s.2.2.2, 0, none⟩) an an, .bool true]) (fun s => ⟨s.2.2.2, .cells ((laidL ad pu).map I64).toArray 3 (0, 0)⟩ :: s.2.2.1) := by
  refine spec_walk (n := 28) Try.func23 rfl rfl rfl (fun w0 hpre => ?_)
  refine gc_seq ?_
  refine gc_region ?_
  refine gl_cons (gs_alloc kze33 rfl rfl rfl (fun b2 => ?_))
  refine gl_cons (gs_val (val_assign rfl) rfl rfl rfl ?_)
  refine gl_cons (gs_val (val_assign rfl) rfl rfl rfl ?_)
  refine gl_nil ?_
  refine gk_seq ?_
  refine gc_seq ?_
  refine gc_seq ?_
  refine gc_region ?_
  refine gl_cons (gs_val (val_move rfl) rfl rfl rfl ?_)
  refine gl_cons (gs_val (val_eqlNil kun24 rfl rfl) rfl rfl rfl ?_)
  refine gl_cons (gs_val (val_move rfl) rfl rfl rfl ?_)
  refine gl_cons (gs_val (val_move rfl) rfl rfl rfl ?_)
  refine gl_cons (gs_val (val_nilCheck rfl) rfl rfl rfl ?_)
  refine gl_cons (gs_val (val_fieldAddr kfo154_2 rfl) rfl rfl rfl ?_)
  refine gl_cons (gs_val (val_load1 kag152 rfl ((sees_row hpre.1).part 2) rfl) rfl rfl rfl ?_)
  refine gl_cons (gs_val (val_eqlNil kun152 rfl rfl) rfl rfl rfl ?_)
  refine gl_cons (gs_val (val_pick_f rfl rfl) rfl rfl rfl ?_)
  refine gl_nil ?_
  refine gk_seq ?_
  refine gc_false rfl ?_
  refine gc_skip ?_
  refine gk_seq ?_
  refine gc_seq ?_
  refine ga_start (m := 16) (ls := [false, false, false, false, false, false, false, false, false, false, false, false, false, false, false, false]) kmixed rfl rfl ?_
  apply share3 (α := Option Addr) (β := Nat) (γ := List Ent) (m' := 4) (ls' := [true, true, true, true, true, true, true, true, true, true, true, true, false, false, false, false])
  · intro hD0
    apply share0  (m' := 5) (ls' := [true, true, true, true, true, true, true, false, true, true, true, true, false, false, false, false])
    · intro hD1
      apply share0  (m' := 6) (ls' := [true, true, true, true, true, true, false, false, true, true, true, true, false, false, false, false])
      · intro hD2
        refine ga_take (i := 0) (ls' := [true, false, false, false, false, false, false, false, false, false, false, false, false, false, false, false]) rfl (by kernel_rfl) rfl (fun _ _ _ => val_move rfl) rfl rfl rfl ?_
        refine ga_take (i := 1) (ls' := [true, true, false, false, false, false, false, false, false, false, false, false, false, false, false, false]) rfl (by kernel_rfl) rfl (fun _ _ _ => val_nilCheck rfl) rfl rfl rfl ?_
        refine ga_take (i := 2) (ls' := [true, true, true, false, false, false, false, false, false, false, false, false, false, false, false, false]) rfl (by kernel_rfl) rfl (fun _ _ _ => val_fieldAddr kfo154_2 rfl) rfl rfl rfl ?_
        refine ga_take (i := 8) (ls' := [true, true, true, false, false, false, false, false, true, false, false, false, false, false, false, false]) rfl (by kernel_rfl) rfl (fun _ _ _ => val_move rfl) rfl rfl rfl ?_
        refine ga_take (i := 9) (ls' := [true, true, true, false, false, false, false, false, true, true, false, false, false, false, false, false]) rfl (by kernel_rfl) rfl (fun _ _ _ => val_nilCheck rfl) rfl rfl rfl ?_
        refine ga_take (i := 10) (ls' := [true, true, true, false, false, false, false, false, true, true, true, false, false, false, false, false]) rfl (by kernel_rfl) rfl (fun _ _ _ => val_fieldAddr kfo154_2 rfl) rfl rfl rfl ?_
        refine ga_branch (rs := [3, 11]) (by kernel_rfl) rfl (.cons (ls' := [true, true, true, true, false, false, false, false, true, true, true, false, false, false, false, false]) rfl rfl ?_ (.cons (ls' := [true, true, true, false, false, false, false, false, true, true, true, true, false, false, false, false]) rfl rfl ?_ .nil))
        · skip
          refine gs_val (val_load1 kag152 rfl ((sees_row hpre.1).part 2) rfl) rfl rfl rfl ?_
          refine ga_take (i := 4) (ls' := [true, true, true, true, true, false, false, false, true, true, true, false, false, false, false, false]) rfl (by kernel_rfl) rfl (fun _ _ _ => val_nilCheck rfl) rfl rfl rfl ?_
          refine ga_take (i := 5) (ls' := [true, true, true, true, true, true, false, false, true, true, true, false, false, false, false, false]) rfl (by kernel_rfl) rfl (fun _ _ _ => val_fieldAddr kfo157_0 rfl) rfl rfl rfl ?_
          refine ga_branch (rs := [6, 11]) (by kernel_rfl) rfl (.cons (ls' := [true, true, true, true, true, true, true, false, true, true, true, false, false, false, false, false]) rfl rfl ?_ (.cons (ls' := [true, true, true, true, true, true, false, false, true, true, true, true, false, false, false, false]) rfl rfl ?_ .nil))
          · skip
            refine gs_val (val_loadA (ds := raL tb num (.slice aa an ac) un) kag33 rfl (sees_row hpre.2.1) rfl rfl) rfl rfl rfl ?_
            refine ga_branch (rs := [7, 11]) (by kernel_rfl) rfl (.cons (ls' := [true, true, true, true, true, true, true, true, true, true, true, false, false, false, false, false]) rfl rfl ?_ (.cons (ls' := [true, true, true, true, true, true, true, false, true, true, true, true, false, false, false, false]) rfl rfl ?_ .nil))
            · skip
              refine gs_makes (enters kcall87 (.cons rfl .nil)) (raClone_spec tb num un aa an ac ad haa (by omega)) rfl rfl rfl (row_of_sees (sees_row hpre.2.2.1)) (fun ⟨aa2, ac2, NA2⟩ hca => ?_)
              have hca : Own 3 1 aa2 an ac2 (ad.map I64) NA2 := hca
              refine gx_perm List.perm_append_comm ?_
              refine ga_branch (rs := [11]) (by kernel_rfl) rfl (.cons (ls' := [true, true, true, true, true, true, true, true, true, true, true, true, false, false, false, false]) rfl rfl ?_ .nil)
              refine gs_val (val_load1 kag152 rfl ((sees_row hpre.1).part 2) rfl) rfl rfl rfl ?_
              refine gx_env (F := [(0, _), (2, _), (3, _), (4, _), (5, _), (6, _), (7, _), (8, _), (9, _), (10, _), (11, _), (12, _), (13, _), (15, _), (16, _), (17, _), (18, _), (19, _), (20, _), (21, _), (22, _), (23, _), (24, _), (25, _), (26, _)]) (.cons rfl (.cons rfl (.cons rfl (.cons rfl (.cons rfl (.cons rfl (.cons rfl (.cons rfl (.cons rfl (.cons rfl (.cons rfl (.cons rfl (.cons rfl (.cons rfl (.cons rfl (.cons rfl (.cons rfl (.cons rfl (.cons rfl (.cons rfl (.cons rfl (.cons rfl (.cons rfl (.cons rfl (.cons rfl .nil))))))))))))))))))))))))) (gx_perm (by first | exact .refl _ | (repeat (first | exact .refl _ | refine perm_take (by first | exact .head | exact .tail .head | exact .tail (.tail .head) | exact .tail (.tail (.tail .head)) | exact .tail (.tail (.tail (.tail .head))) | exact .tail (.tail (.tail (.tail (.tail .head))))) ?_ | refine perm_takeL (by repeat (first | exact .app | exact .here | apply TakeL.tail | apply TakeL.appr)) ?_ | refine perm_takeX (by repeat (first | exact .cons .head .nil | apply TakeL.tail | apply TakeL.appr)) ?_))) (hD0 aa2 ac2 NA2 (And.intro hca True.intro)))
            · skip
              refine gs_val (val_load1 kag152 rfl ((sees_row hpre.1).part 2) rfl) rfl rfl rfl ?_
              refine gx_env (F := [(0, _), (2, _), (3, _), (4, _), (5, _), (6, _), (7, _), (8, _), (9, _), (10, _), (11, _), (12, _), (13, _), (15, _), (16, _), (17, _), (18, _), (19, _), (20, _), (21, _), (23, _), (24, _), (25, _), (26, _)]) (.cons rfl (.cons rfl (.cons rfl (.cons rfl (.cons rfl (.cons rfl (.cons rfl (.cons rfl (.cons rfl (.cons rfl (.cons rfl (.cons rfl (.cons rfl (.cons rfl (.cons rfl (.cons rfl (.cons rfl (.cons rfl (.cons rfl (.cons rfl (.cons rfl (.cons rfl (.cons rfl (.cons rfl .nil)))))))))))))))))))))))) (gx_perm (by first | exact .refl _ | (repeat (first | exact .refl _ | refine perm_take (by first | exact .head | exact .tail .head | exact .tail (.tail .head) | exact .tail (.tail (.tail .head)) | exact .tail (.tail (.tail (.tail .head))) | exact .tail (.tail (.tail (.tail (.tail .head))))) ?_ | refine perm_takeL (by repeat (first | exact .app | exact .here | apply TakeL.tail | apply TakeL.appr)) ?_ | refine perm_takeX (by repeat (first | exact .cons .head .nil | apply TakeL.tail | apply TakeL.appr)) ?_))) (hD1  True.intro))
          · skip
            refine gs_val (val_load1 kag152 rfl ((sees_row hpre.1).part 2) rfl) rfl rfl rfl ?_
            refine gx_env (F := [(0, _), (2, _), (3, _), (4, _), (5, _), (6, _), (7, _), (8, _), (9, _), (10, _), (11, _), (12, _), (13, _), (15, _), (16, _), (17, _), (18, _), (19, _), (20, _), (23, _), (24, _), (25, _), (26, _)]) (.cons rfl (.cons rfl (.cons rfl (.cons rfl (.cons rfl (.cons rfl (.cons rfl (.cons rfl (.cons rfl (.cons rfl (.cons rfl (.cons rfl (.cons rfl (.cons rfl (.cons rfl (.cons rfl (.cons rfl (.cons rfl (.cons rfl (.cons rfl (.cons rfl (.cons rfl (.cons rfl .nil))))))))))))))))))))))) (gx_perm (by first | exact .refl _ | (repeat (first | exact .refl _ | refine perm_take (by first | exact .head | exact .tail .head | exact .tail (.tail .head) | exact .tail (.tail (.tail .head)) | exact .tail (.tail (.tail (.tail .head))) | exact .tail (.tail (.tail (.tail (.tail .head))))) ?_ | refine perm_takeL (by repeat (first | exact .app | exact .here | apply TakeL.tail | apply TakeL.appr)) ?_ | refine perm_takeX (by repeat (first | exact .cons .head .nil | apply TakeL.tail | apply TakeL.appr)) ?_))) (hD2  True.intro))
        · skip
          refine gs_val (val_load1 kag152 rfl ((sees_row hpre.1).part 2) rfl) rfl rfl rfl ?_
          refine ga_branch (rs := [3]) (by kernel_rfl) rfl (.cons (ls' := [true, true, true, true, false, false, false, false, true, true, true, true, false, false, false, false]) rfl rfl ?_ .nil)
          refine gs_val (val_load1 kag152 rfl ((sees_row hpre.1).part 2) rfl) rfl rfl rfl ?_
          refine ga_take (i := 4) (ls' := [true, true, true, true, true, false, false, false, true, true, true, true, false, false, false, false]) rfl (by kernel_rfl) rfl (fun _ _ _ => val_nilCheck rfl) rfl rfl rfl ?_
          refine ga_take (i := 5) (ls' := [true, true, true, true, true, true, false, false, true, true, true, true, false, false, false, false]) rfl (by kernel_rfl) rfl (fun _ _ _ => val_fieldAddr kfo157_0 rfl) rfl rfl rfl ?_
          refine gx_env (F := [(0, _), (2, _), (3, _), (4, _), (5, _), (6, _), (7, _), (8, _), (9, _), (10, _), (11, _), (12, _), (13, _), (15, _), (16, _), (17, _), (18, _), (19, _), (20, _), (23, _), (24, _), (25, _), (26, _)]) (.cons rfl (.cons rfl (.cons rfl (.cons rfl (.cons rfl (.cons rfl (.cons rfl (.cons rfl (.cons rfl (.cons rfl (.cons rfl (.cons rfl (.cons rfl (.cons rfl (.cons rfl (.cons rfl (.cons rfl (.cons rfl (.cons rfl (.cons rfl (.cons rfl (.cons rfl (.cons rfl .nil))))))))))))))))))))))) (gx_perm (by first | exact .refl _ | (repeat (first | exact .refl _ | refine perm_take (by first | exact .head | exact .tail .head | exact .tail (.tail .head) | exact .tail (.tail (.tail .head)) | exact .tail (.tail (.tail (.tail .head))) | exact .tail (.tail (.tail (.tail (.tail .head))))) ?_ | refine perm_takeL (by repeat (first | exact .app | exact .here | apply TakeL.tail | apply TakeL.appr)) ?_ | refine perm_takeX (by repeat (first | exact .cons .head .nil | apply TakeL.tail | apply TakeL.appr)) ?_))) (hD2  True.intro))
      · rintro  _
        refine ga_branch (rs := [6]) (by kernel_rfl) rfl (.cons (ls' := [true, true, true, true, true, true, true, false, true, true, true, true, false, false, false, false]) rfl rfl ?_ .nil)
        refine gs_val (val_loadA (ds := raL tb num (.slice aa an ac) un) kag33 rfl (sees_row hpre.2.1) rfl rfl) rfl rfl rfl ?_
        refine gx_env (F := [(0, _), (2, _), (3, _), (4, _), (5, _), (6, _), (7, _), (8, _), (9, _), (10, _), (11, _), (12, _), (13, _), (15, _), (16, _), (17, _), (18, _), (19, _), (20, _), (21, _), (23, _), (24, _), (25, _), (26, _)]) (.cons rfl (.cons rfl (.cons rfl (.cons rfl (.cons rfl (.cons rfl (.cons rfl (.cons rfl (.cons rfl (.cons rfl (.cons rfl (.cons rfl (.cons rfl (.cons rfl (.cons rfl (.cons rfl (.cons rfl (.cons rfl (.cons rfl (.cons rfl (.cons rfl (.cons rfl (.cons rfl (.cons rfl .nil)))))))))))))))))))))))) (gx_perm (by first | exact .refl _ | (repeat (first | exact .refl _ | refine perm_take (by first | exact .head | exact .tail .head | exact .tail (.tail .head) | exact .tail (.tail (.tail .head)) | exact .tail (.tail (.tail (.tail .head))) | exact .tail (.tail (.tail (.tail (.tail .head))))) ?_ | refine perm_takeL (by repeat (first | exact .app | exact .here | apply TakeL.tail | apply TakeL.appr)) ?_ | refine perm_takeX (by repeat (first | exact .cons .head .nil | apply TakeL.tail | apply TakeL.appr)) ?_))) (hD1  True.intro))
    · rintro  _
      refine ga_branch (rs := [7]) (by kernel_rfl) rfl (.cons (ls' := [true, true, true, true, true, true, true, true, true, true, true, true, false, false, false, false]) rfl rfl ?_ .nil)
      refine gs_makes (enters kcall87 (.cons rfl .nil)) (raClone_spec tb num un aa an ac ad haa (by omega)) rfl rfl rfl (row_of_sees (sees_row hpre.2.2.1)) (fun ⟨aa2, ac2, NA2⟩ hca => ?_)
      have hca : Own 3 1 aa2 an ac2 (ad.map I64) NA2 := hca
      refine gx_perm List.perm_append_comm ?_
      refine gx_env (F := [(0, _), (2, _), (3, _), (4, _), (5, _), (6, _), (7, _), (8, _), (9, _), (10, _), (11, _), (12, _), (13, _), (15, _), (16, _), (17, _), (18, _), (19, _), (20, _), (21, _), (22, _), (23, _), (24, _), (25, _), (26, _)]) (.cons rfl (.cons rfl (.cons rfl (.cons rfl (.cons rfl (.cons rfl (.cons rfl (.cons rfl (.cons rfl (.cons rfl (.cons rfl (.cons rfl (.cons rfl (.cons rfl (.cons rfl (.cons rfl (.cons rfl (.cons rfl (.cons rfl (.cons rfl (.cons rfl (.cons rfl (.cons rfl (.cons rfl (.cons rfl .nil))))))))))))))))))))))))) (gx_perm (by first | exact .refl _ | (repeat (first | exact .refl _ | refine perm_take (by first | exact .head | exact .tail .head | exact .tail (.tail .head) | exact .tail (.tail (.tail .head)) | exact .tail (.tail (.tail (.tail .head))) | exact .tail (.tail (.tail (.tail (.tail .head))))) ?_ | refine perm_takeL (by repeat (first | exact .app | exact .here | apply TakeL.tail | apply TakeL.appr)) ?_ | refine perm_takeX (by repeat (first | exact .cons .head .nil | apply TakeL.tail | apply TakeL.appr)) ?_))) (hD0 aa2 ac2 NA2 (And.intro hca True.intro)))
  · rintro aa2 ac2 NA2 ⟨hca, _⟩
    refine ga_branch (rs := [12]) (by kernel_rfl) rfl (.cons (ls' := [true, true, true, true, true, true, true, true, true, true, true, true, true, false, false, false]) rfl rfl ?_ .nil)
    refine gs_makes (enters kcall88 (.cons rfl .nil)) (laid_spec p tb num un aa pa an ac pn pc ad pu haa hpp hap hb) rfl rfl rfl (fun w hi => ⟨(row_of_sees (sees_row hpre.2.1)) w hi, (row_of_sees (sees_row hpre.2.2.1)) w hi, (row_of_sees (sees_row hpre.2.2.2)) w hi⟩) (fun lb _ => ?_)
    refine gx_perm (.refl (_ :: _ :: _)) ?_
    refine ga_branch (rs := [13]) (by kernel_rfl) rfl (.cons (ls' := [true, true, true, true, true, true, true, true, true, true, true, true, true, true, false, false]) rfl rfl ?_ .nil)
    refine gs_store ksz33 rfl rfl rfl rfl rfl rfl (by first | exact .head | exact .tail .head | exact .tail (.tail .head) | exact .tail (.tail (.tail .head)) | exact .tail (.tail (.tail (.tail .head))) | exact .tail (.tail (.tail (.tail (.tail .head))))) (by simp) (by first | ((with_reducible refine splice_all _ _ ?_); simp; done) | (simp only [splice, stL, digL, List.take_succ_cons, List.take_zero, List.drop_succ_cons, List.drop_zero, List.length_cons, List.length_nil, Nat.reduceAdd, Nat.reduceMul, Nat.zero_add, Nat.zero_mul, List.cons_append, List.nil_append]; exact rfl)) ?_
    refine ga_take (i := 14) (ls' := [true, true, true, true, true, true, true, true, true, true, true, true, true, true, true, false]) rfl (by kernel_rfl) rfl (fun _ _ _ => val_assign rfl) rfl rfl rfl ?_
    refine ga_take (i := 15) (ls' := [true, true, true, true, true, true, true, true, true, true, true, true, true, true, true, true]) rfl (by kernel_rfl) rfl (fun _ _ _ => val_assign rfl) rfl rfl rfl ?_
    refine ga_done (by kernel_rfl) ?_
    refine gk_seq ?_
    refine gc_ret ?_
    refine gk_ret rfl (resv_cellA kag33 rfl (sees_mem (by repeat (first | exact .head _ | refine .tail _ ?_ | refine List.mem_append_right _ ?_))) rfl rfl (resv_tmp rfl (resv_tmp rfl .nil))) (M := ⟨lb, .cells ((laidL ad pu).map I64).toArray 3 (0, 0)⟩ :: NA2) (List.Sublist.cons_cons _ (.cons _ (List.Sublist.refl _))) ?_
    exact ⟨(aa2, ac2, NA2, lb), hca, rfl, rfl⟩

/-- (*baize/topup.Bank).Held -/
theorem held_nil  : Pure Try.prog 22 ([.pointer none]).toArray (fun _ => True) (I64 0) := by
  refine spec_walk (n := 17) Try.func22 rfl rfl rfl (fun w0 hpre => ?_)
  refine gc_seq ?_
  refine gc_region ?_
  refine gl_cons (gs_val (val_assign rfl) rfl rfl rfl ?_)
  refine gl_nil ?_
  refine gk_seq ?_
  refine gc_seq ?_
  refine gc_region ?_
  refine gl_cons (gs_val (val_move rfl) rfl rfl rfl ?_)
  refine gl_cons (gs_pure (enters kcall23 (.cons rfl .nil)) (open_nil) rfl rfl rfl (fun _ _ => trivial) ?_)
  refine gl_cons (gs_val (val_move rfl) rfl rfl rfl ?_)
  refine gl_cons (gs_val (val_extract rfl rfl) rfl rfl rfl ?_)
  refine gl_cons (gs_val (val_extract rfl rfl) rfl rfl rfl ?_)
  refine gl_cons (gs_val (val_extract rfl rfl) rfl rfl rfl ?_)
  refine gl_cons (gs_alloc kze33 rfl rfl rfl (fun b3 => ?_))
  refine gl_cons (gs_store ksz33 rfl rfl rfl rfl rfl rfl (by first | exact .head | exact .tail .head | exact .tail (.tail .head) | exact .tail (.tail (.tail .head)) | exact .tail (.tail (.tail (.tail .head))) | exact .tail (.tail (.tail (.tail (.tail .head))))) (by simp) (by first | ((with_reducible refine splice_all _ _ ?_); simp; done) | (simp only [splice, stL, digL, List.take_succ_cons, List.take_zero, List.drop_succ_cons, List.drop_zero, List.length_cons, List.length_nil, Nat.reduceAdd, Nat.reduceMul, Nat.zero_add, Nat.zero_mul, List.cons_append, List.nil_append]; exact rfl)) ?_)
  refine gl_cons (gs_val (val_assign rfl) rfl rfl rfl ?_)
  refine gl_cons (gs_val (val_assign rfl) rfl rfl rfl ?_)
  refine gl_nil ?_
  refine gk_seq ?_
  refine gc_seq ?_
  refine gc_region ?_
  refine gl_cons (gs_val (val_move rfl) rfl rfl rfl ?_)
  refine gl_cons (gs_pure (enters kcall29 (.cons rfl .nil)) (pot_nil) rfl rfl rfl (fun _ _ => trivial) ?_)
  refine gl_cons (gs_val (val_move rfl) rfl rfl rfl ?_)
  refine gl_cons (gs_pure (enters kcall85 (.cons rfl .nil)) (sum_nil) rfl rfl rfl (fun _ _ i v h => by simp at h) ?_)
  refine gl_cons (gs_val (val_addI rfl rfl (by omega)) rfl rfl rfl ?_)
  refine gl_cons (gs_val (val_assign rfl) rfl rfl rfl ?_)
  refine gl_nil ?_
  refine gk_seq ?_
  refine gc_ret ?_
  refine gk_ret rfl (resv_tmp rfl .nil) (List.nil_sublist _) ?_
  exact ⟨rfl, rfl⟩

/-- (*baize/topup.Bank).Held -/
theorem held_none (b : Nat) (sa : Option Addr) (n sc : Nat) (nm : Int) (st : List Int) (hst : st.length = n) (h8 : n ≤ 8) (hr : ∀ x ∈ st, rightP x) : Pure Try.prog 22 ([.pointer (some ⟨b, 0, none⟩)]).toArray (fun w => Row w [] (some ⟨b, 0, none⟩) (bkL (.slice sa n sc) nm (.pointer none)) ∧ Row w [] sa (st.map I64)) (I64 st.sum) := by
  have q1 := sumT_bound hr n
  rw [← hst, sumT_all] at q1
  refine spec_walk (n := 17) Try.func22 rfl rfl rfl (fun w0 hpre => ?_)
  refine gc_seq ?_
  refine gc_region ?_
  refine gl_cons (gs_val (val_assign rfl) rfl rfl rfl ?_)
  refine gl_nil ?_
  refine gk_seq ?_
  refine gc_seq ?_
  refine gc_region ?_
  refine gl_cons (gs_val (val_move rfl) rfl rfl rfl ?_)
  refine gl_cons (gs_pure (enters kcall23 (.cons rfl .nil)) (open_none b sa n sc nm) rfl rfl rfl (row_of_sees (sees_row hpre.1)) ?_)
  refine gl_cons (gs_val (val_move rfl) rfl rfl rfl ?_)
  refine gl_cons (gs_val (val_extract rfl rfl) rfl rfl rfl ?_)
  refine gl_cons (gs_val (val_extract rfl rfl) rfl rfl rfl ?_)
  refine gl_cons (gs_val (val_extract rfl rfl) rfl rfl rfl ?_)
  refine gl_cons (gs_alloc kze33 rfl rfl rfl (fun b3 => ?_))
  refine gl_cons (gs_store ksz33 rfl rfl rfl rfl rfl rfl (by first | exact .head | exact .tail .head | exact .tail (.tail .head) | exact .tail (.tail (.tail .head)) | exact .tail (.tail (.tail (.tail .head))) | exact .tail (.tail (.tail (.tail (.tail .head))))) (by simp) (by first | ((with_reducible refine splice_all _ _ ?_); simp; done) | (simp only [splice, stL, digL, List.take_succ_cons, List.take_zero, List.drop_succ_cons, List.drop_zero, List.length_cons, List.length_nil, Nat.reduceAdd, Nat.reduceMul, Nat.zero_add, Nat.zero_mul, List.cons_append, List.nil_append]; exact rfl)) ?_)
  refine gl_cons (gs_val (val_assign rfl) rfl rfl rfl ?_)
  refine gl_cons (gs_val (val_assign rfl) rfl rfl rfl ?_)
  refine gl_nil ?_
  refine gk_seq ?_
  refine gc_seq ?_
  refine gc_region ?_
  refine gl_cons (gs_val (val_move rfl) rfl rfl rfl ?_)
  refine gl_cons (gs_pure (enters kcall29 (.cons rfl .nil)) (pot_spec b sa n sc nm (.pointer none) st hst (by omega) hr) rfl rfl rfl (fun w hi => ⟨(row_of_sees (sees_row hpre.1)) w hi, (row_of_sees (sees_row hpre.2)) w hi⟩) ?_)
  refine gl_cons (gs_val (val_move rfl) rfl rfl rfl ?_)
  refine gl_cons (gs_pure (enters kcall85 (.cons rfl .nil)) (sum_nil) rfl rfl rfl (fun _ _ i v h => by simp at h) ?_)
  refine gl_cons (gs_val (val_addI rfl rfl (by omega)) rfl rfl rfl ?_)
  refine gl_cons (gs_val (val_assign rfl) rfl rfl rfl ?_)
  refine gl_nil ?_
  refine gk_seq ?_
  refine gc_ret ?_
  refine gk_ret rfl (resv_tmp rfl .nil) (List.nil_sublist _) ?_
  exact ⟨congrArg I64 (show st.sum + 0 = st.sum by omega), rfl⟩

/-- (*baize/topup.Bank).Held -/
theorem held_some (b : Nat) (sa : Option Addr) (n sc : Nat) (nm : Int) (p : Nat) (tb : BitVec 64) (num un : Int) (aa pa : Option Addr) (an ac pn pc : Nat) (ad : List Int) (pu : List Bool) (haa : ad.length = an) (hpp : pu.length = pn) (hap : an = pn) (hb : an ≤ 100) (st : List Int) (hst : st.length = n) (h8 : n ≤ 8) (hr : ∀ x ∈ st, rightP x) (had : ∀ x ∈ ad, rightP x) (ha8 : an ≤ 8) : Pure Try.prog 22 ([.pointer (some ⟨b, 0, none⟩)]).toArray (fun w => Row w [] (some ⟨b, 0, none⟩) (bkL (.slice sa n sc) nm (.pointer (some ⟨p, 0, none⟩))) ∧ Row w [] (some ⟨p, 0, none⟩) (pdL tb num (.slice aa an ac) un (.slice pa pn pc)) ∧ Row w [] aa (ad.map I64) ∧ Row w [] pa (pu.map Value.bool) ∧ Row w [] sa (st.map I64)) (I64 (st.sum + (laidL ad pu).sum)) := by
  have q1 := sumT_bound hr n
  rw [← hst, sumT_all] at q1
  have hll : (laidL ad pu).length = an := by rw [laid_len (by omega), haa]
  have q2 := sumT_bound (laid_right (p := pu) had) an
  rw [← hll, sumT_all] at q2
  refine spec_walk (n := 17) Try.func22 rfl rfl rfl (fun w0 hpre => ?_)
  refine gc_seq ?_
  refine gc_region ?_
  refine gl_cons (gs_val (val_assign rfl) rfl rfl rfl ?_)
  refine gl_nil ?_
  refine gk_seq ?_
  refine gc_seq ?_
  refine gc_region ?_
  refine gl_cons (gs_val (val_move rfl) rfl rfl rfl ?_)
  refine gl_cons (gs_makes (enters kcall23 (.cons rfl .nil)) (open_some b sa n sc nm p tb num un aa pa an ac pn pc ad pu haa hpp hap hb) rfl rfl rfl (fun w hi => ⟨(row_of_sees (sees_row hpre.1)) w hi, (row_of_sees (sees_row hpre.2.1)) w hi, (row_of_sees (sees_row hpre.2.2.1)) w hi, (row_of_sees (sees_row hpre.2.2.2.1)) w hi⟩) (fun ⟨aa2, ac2, NA2, lb⟩ hca => ?_))
  refine gx_perm (.refl (_ :: _)) ?_
  refine gl_cons (gs_val (val_move rfl) rfl rfl rfl ?_)
  refine gl_cons (gs_val (val_extract rfl rfl) rfl rfl rfl ?_)
  refine gl_cons (gs_val (val_extract rfl rfl) rfl rfl rfl ?_)
  refine gl_cons (gs_val (val_extract rfl rfl) rfl rfl rfl ?_)
  refine gl_cons (gs_alloc kze33 rfl rfl rfl (fun b3 => ?_))
  refine gl_cons (gs_store ksz33 rfl rfl rfl rfl rfl rfl (by first | exact .head | exact .tail .head | exact .tail (.tail .head) | exact .tail (.tail (.tail .head)) | exact .tail (.tail (.tail (.tail .head))) | exact .tail (.tail (.tail (.tail (.tail .head))))) (by simp) (by first | ((with_reducible refine splice_all _ _ ?_); simp; done) | (simp only [splice, stL, digL, List.take_succ_cons, List.take_zero, List.drop_succ_cons, List.drop_zero, List.length_cons, List.length_nil, Nat.reduceAdd, Nat.reduceMul, Nat.zero_add, Nat.zero_mul, List.cons_append, List.nil_append]; exact rfl)) ?_)
  refine gl_cons (gs_val (val_assign rfl) rfl rfl rfl ?_)
  refine gl_cons (gs_val (val_assign rfl) rfl rfl rfl ?_)
  refine gl_nil ?_
  refine gk_seq ?_
  refine gc_seq ?_
  refine gc_region ?_
  refine gl_cons (gs_val (val_move rfl) rfl rfl rfl ?_)
  refine gl_cons (gs_pure (enters kcall29 (.cons rfl .nil)) (pot_spec b sa n sc nm (.pointer (some ⟨p, 0, none⟩)) st hst (by omega) hr) rfl rfl rfl (fun w hi => ⟨(row_of_sees (sees_row hpre.1)) w hi, (row_of_sees (sees_row hpre.2.2.2.2)) w hi⟩) ?_)
  refine gl_cons (gs_val (val_move rfl) rfl rfl rfl ?_)
  refine gl_cons (gs_pure (enters kcall85 (.cons rfl .nil)) (sum_spec (some ⟨lb, 0, none⟩) an an (laidL ad pu) hll (by omega) (laid_right had)) rfl rfl rfl (row_of_sees (sees_all (by repeat (first | exact .head _ | refine .tail _ ?_ | refine List.mem_append_right _ ?_)))) ?_)
  refine gl_cons (gs_val (val_addI rfl rfl (by omega)) rfl rfl rfl ?_)
  refine gl_cons (gs_val (val_assign rfl) rfl rfl rfl ?_)
  refine gl_nil ?_
  refine gk_seq ?_
  refine gc_ret ?_
  refine gk_ret rfl (resv_tmp rfl .nil) (List.nil_sublist _) ?_
  exact ⟨rfl, rfl⟩

theorem potK_spec (b : Nat) (s : BS) (L0 : List Ent) (hbk : BK 154 157 3 4 b s L0) (hok : BOk s) : Turns Try.prog 29 ([.pointer (some ⟨b, 0, none⟩)]).toArray (fun _ => True) L0 (fun _ : Unit => True) (fun _ => I64 s.st.sum) (fun _ => L0) := by
  obtain ⟨sa, sc, NS, sx, hm⟩ := hbk
  have hst := hok.st
  have h8 := hok.n8
  have h9 := hok.ad
  obtain ⟨st, nm, op⟩ := s
  cases op with
  | none =>
    subst hm
    exact turns_of_pureL (pot_spec b sa st.length sc nm _ st rfl (by have h8 : st.length ≤ 8 := h8; omega) hst) (fun w hi hr => ⟨row_of_sees (sees_all (by repeat (first | exact .head _ | refine .tail _ ?_ | refine List.mem_append_right _ ?_))) w hi, row_of_sees (sx.look (by repeat (first | exact .here | exact .headR | exact .app | refine .tail ?_ | refine .appr ?_))) w hi⟩)
  | some o =>
    obtain ⟨p, aa, ac, NA, pa, pc, NP, hm, rfl⟩ := hm
    obtain ⟨tb, num, ad, un, pu⟩ := o
    obtain ⟨q1, q2, q3, q4⟩ := h9 _ rfl
    have q1 : ad.length = st.length := q1
    have q2 : pu.length = st.length := q2
    have h8 : st.length ≤ 8 := h8
    exact turns_of_pureL (pot_spec b sa st.length sc nm _ st rfl (by omega) hst) (fun w hi hr => ⟨row_of_sees (sees_all (by repeat (first | exact .head _ | refine .tail _ ?_ | refine List.mem_append_right _ ?_))) w hi, row_of_sees (sx.look (by repeat (first | exact .here | exact .headR | exact .app | refine .tail ?_ | refine .appr ?_))) w hi⟩)

theorem heldK_spec (b : Nat) (s : BS) (L0 : List Ent) (hbk : BK 154 157 3 4 b s L0) (hok : BOk s) : Turns Try.prog 22 ([.pointer (some ⟨b, 0, none⟩)]).toArray (fun _ => True) L0 (fun _ : Unit => True) (fun _ => I64 (heldS s)) (fun _ => L0) := by
  obtain ⟨sa, sc, NS, sx, hm⟩ := hbk
  have hst := hok.st
  have h8 := hok.n8
  have h9 := hok.ad
  obtain ⟨st, nm, op⟩ := s
  cases op with
  | none =>
    subst hm
    exact turns_of_pureL (held_none b sa st.length sc nm st rfl h8 hst) (fun w hi hr => ⟨row_of_sees (sees_all (by repeat (first | exact .head _ | refine .tail _ ?_ | refine List.mem_append_right _ ?_))) w hi, row_of_sees (sx.look (by repeat (first | exact .here | exact .headR | exact .app | refine .tail ?_ | refine .appr ?_))) w hi⟩)
  | some o =>
    obtain ⟨p, aa, ac, NA, pa, pc, NP, hm, rfl⟩ := hm
    obtain ⟨tb, num, ad, un, pu⟩ := o
    obtain ⟨q1, q2, q3, q4⟩ := h9 _ rfl
    have q1 : ad.length = st.length := q1
    have q2 : pu.length = st.length := q2
    have h8 : st.length ≤ 8 := h8
    exact turns_of_pureL (held_some b sa st.length sc nm p tb num un aa pa ad.length ac pu.length pc ad pu rfl rfl (by omega) (by omega) st rfl h8 hst q3 (by omega)) (fun w hi hr => ⟨row_of_sees (sees_all (by repeat (first | exact .head _ | refine .tail _ ?_ | refine List.mem_append_right _ ?_))) w hi, row_of_sees (sees_all (by repeat (first | exact .head _ | refine .tail _ ?_ | refine List.mem_append_right _ ?_))) w hi, row_of_sees (hm.ad.look (by repeat (first | exact .here | exact .headR | exact .app | refine .tail ?_ | refine .appr ?_))) w hi, row_of_sees (hm.pu.look (by repeat (first | exact .here | exact .headR | exact .app | refine .tail ?_ | refine .appr ?_))) w hi, row_of_sees (sx.look (by repeat (first | exact .here | exact .headR | exact .app | refine .tail ?_ | refine .appr ?_))) w hi⟩)

theorem stakesK_spec (b : Nat) (s : BS) (L0 : List Ent) (hbk : BK 154 157 3 4 b s L0) (hok : BOk s) : Turns Try.prog 32 ([.pointer (some ⟨b, 0, none⟩)]).toArray (fun _ => True) L0 (fun t : Option Addr × Nat × List Ent => Own 3 1 t.1 s.st.length t.2.1 (s.st.map I64) t.2.2) (fun t => .slice t.1 s.st.length t.2.1) (fun t => t.2.2 ++ L0) := by
  obtain ⟨sa, sc, NS, sx, hm⟩ := hbk
  have hst := hok.st
  have h8 := hok.n8
  have h9 := hok.ad
  obtain ⟨st, nm, op⟩ := s
  cases op with
  | none =>
    subst hm
    exact turns_of_makesL (stakes_spec b sa st.length sc nm _ st rfl (by have h8 : st.length ≤ 8 := h8; omega)) (fun w hi hr => ⟨row_of_sees (sees_all (by repeat (first | exact .head _ | refine .tail _ ?_ | refine List.mem_append_right _ ?_))) w hi, row_of_sees (sx.look (by repeat (first | exact .here | exact .headR | exact .app | refine .tail ?_ | refine .appr ?_))) w hi⟩)
  | some o =>
    obtain ⟨p, aa, ac, NA, pa, pc, NP, hm, rfl⟩ := hm
    obtain ⟨tb, num, ad, un, pu⟩ := o
    obtain ⟨q1, q2, q3, q4⟩ := h9 _ rfl
    have q1 : ad.length = st.length := q1
    have q2 : pu.length = st.length := q2
    have h8 : st.length ≤ 8 := h8
    exact turns_of_makesL (stakes_spec b sa st.length sc nm _ st rfl (by omega)) (fun w hi hr => ⟨row_of_sees (sees_all (by repeat (first | exact .head _ | refine .tail _ ?_ | refine List.mem_append_right _ ?_))) w hi, row_of_sees (sx.look (by repeat (first | exact .here | exact .headR | exact .app | refine .tail ?_ | refine .appr ?_))) w hi⟩)

theorem openK_spec (b : Nat) (s : BS) (L0 : List Ent) (hbk : BK 154 157 3 4 b s L0) (hok : BOk s) : Turns Try.prog 23 ([.pointer (some ⟨b, 0, none⟩)]).toArray (fun _ => True) L0 (fun t : Option Addr × Nat × List Ent × Option Addr × Nat × Nat => Has t.2.2.1 t.1 ((adL s).map I64)) (fun t => .tuple #[.agg (raL (opB s).tb (opB s).num (.slice t.1 (adL s).length t.2.1) (opB s).un).toArray, .slice t.2.2.2.1 t.2.2.2.2.1 t.2.2.2.2.2, .bool s.op.isSome]) (fun t => t.2.2.1 ++ L0) := by
  obtain ⟨sa, sc, NS, sx, hm⟩ := hbk
  have hst := hok.st
  have h8 := hok.n8
  have h9 := hok.ad
  obtain ⟨st, nm, op⟩ := s
  cases op with
  | none =>
    subst hm
    exact turns_mono (turns_of_pureL (open_none b sa st.length sc nm) (fun w hi hr => row_of_sees (sees_all (by repeat (first | exact .head _ | refine .tail _ ?_ | refine List.mem_append_right _ ?_))) w hi)) (fun _ h => h) (fun _ _ => ⟨(none, 0, [], none, 0, 0), fun _ _ => sees_nil, rfl, rfl⟩)
  | some o =>
    obtain ⟨p, aa, ac, NA, pa, pc, NP, hm, rfl⟩ := hm
    obtain ⟨tb, num, ad, un, pu⟩ := o
    obtain ⟨q1, q2, q3, q4⟩ := h9 _ rfl
    have q1 : ad.length = st.length := q1
    have q2 : pu.length = st.length := q2
    have h8 : st.length ≤ 8 := h8
    exact turns_mono (turns_of_makesL (open_some b sa st.length sc nm p tb num un aa pa ad.length ac pu.length pc ad pu rfl rfl (by omega) (by omega)) (fun w hi hr => ⟨row_of_sees (sees_all (by repeat (first | exact .head _ | refine .tail _ ?_ | refine List.mem_append_right _ ?_))) w hi, row_of_sees (sees_all (by repeat (first | exact .head _ | refine .tail _ ?_ | refine List.mem_append_right _ ?_))) w hi, row_of_sees (hm.ad.look (by repeat (first | exact .here | exact .headR | exact .app | refine .tail ?_ | refine .appr ?_))) w hi, row_of_sees (hm.pu.look (by repeat (first | exact .here | exact .headR | exact .app | refine .tail ?_ | refine .appr ?_))) w hi⟩)) (fun _ h => h) (fun t ht => ⟨(t.1, t.2.1, _, some ⟨t.2.2.2, 0, none⟩, ad.length, ad.length), (Own.has ht).more (List.sublist_cons_self _ _), rfl, rfl⟩)

end Go.Proofs.Ytddckbhlfeegoaa
