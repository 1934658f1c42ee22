/- The walk of functions of the program: what each computes, for every input. -/
import Derived.Test.YtddckbhlfeegoaaWBFacts
import Derived.Test.YtddckbhlfeegoaaWBtopup7
namespace Go.Proofs.Ytddckbhlfeegoaa
open Go Go.Eng
set_option linter.unusedVariables false
set_option linter.unusedSimpArgs false

theorem putK_spec (b : Nat) (s : BS) (L0 : List Ent) (hbk : BK 154 157 3 4 b s L0) (hok : BOk s) (now seat amt : Int) : Turns Try.prog 27 ([.pointer (some ⟨b, 0, none⟩), I64 now, I64 seat, I64 amt]).toArray (fun _ => True) L0 (fun t : List Ent => BK 154 157 3 4 b (putS s now seat amt) t) (fun _ => I64 (putE s now seat amt)) (fun t => t) := by
  have hbk0 := hbk
  obtain ⟨sa, sc, NS, sx, hm⟩ := hbk
  have hst := hok.st
  have h2 := hok.n2
  have h8 := hok.n8
  have h9 := hok.ad
  obtain ⟨st, nm, op⟩ := s
  cases op with
  | none =>
    subst hm
    exact turns_mono (turns_of_pureL (put_none b sa sc nm st now seat amt) (fun w hi hr => row_of_sees (sees_all (by repeat (first | exact .head _ | refine .tail _ ?_ | refine List.mem_append_right _ ?_))) w hi)) (fun _ h => h) (fun _ _ => ⟨_, hbk0, rfl, rfl⟩)
  | some o =>
    obtain ⟨p, aa, ac, NA, pa, pc, NP, hm, rfl⟩ := hm
    obtain ⟨tb, num, ad, un, pu⟩ := o
    obtain ⟨q1, q2, q3, q4⟩ := h9 _ rfl
    have q1 : ad.length = st.length := q1
    have q2 : pu.length = st.length := q2
    have h8 : st.length ≤ 8 := h8
    have h2 : 2 ≤ st.length := h2
    by_cases he : putE ⟨st, nm, some ⟨tb, num, ad, un, pu⟩⟩ now seat amt = 0
    · obtain ⟨i, rfl⟩ : ∃ i : Nat, seat = (i : Int) := ⟨seat.toNat, by have := (put_ok (o := ⟨tb, num, ad, un, pu⟩) rfl he).1; omega⟩
      obtain ⟨s0, rfl⟩ := own_addr sx (show 0 < st.length by omega)
      obtain ⟨q, rfl⟩ := own_addr hm.pu (show 0 < pu.length by omega)
      obtain ⟨sj, rfl, _⟩ := own_blk sx
      obtain ⟨pj, rfl, _⟩ := own_blk hm.pu
      rw [he]; unfold putS; rw [if_pos he]
      simp only [Int.toNat_natCast]
      by_cases hF : false ∈ pu.set i true
      · rw [if_pos hF]
        exact put_more b sc nm st now i amt p tb num un aa ac pc s0 q ad pu sj pj NA q1 q2 h8 hst q3 sx hm he hF
      · rw [if_neg hF]
        exact put_last b sc nm st now i amt p tb num un aa ac pc s0 q ad pu sj pj NA q1 q2 h8 hst q3 sx hm he hF
    · unfold putS; rw [if_neg he]
      exact turns_mono (turns_of_pureL (put_err b sa sc nm st now seat amt p tb num un aa pa ac pc ad pu q1 q2 he) (fun w hi hr => ⟨row_of_sees (sees_all (by repeat (first | exact .head _ | refine .tail _ ?_ | refine List.mem_append_right _ ?_))) w hi, row_of_sees (sees_all (by repeat (first | exact .head _ | refine .tail _ ?_ | refine List.mem_append_right _ ?_))) w hi, row_of_sees (hm.ad.look (by repeat (first | exact .here | exact .headR | exact .app | refine .tail ?_ | refine .appr ?_))) w hi, row_of_sees (hm.pu.look (by repeat (first | exact .here | exact .headR | exact .app | refine .tail ?_ | refine .appr ?_))) w hi⟩)) (fun _ h => h) (fun _ _ => ⟨_, hbk0, rfl, rfl⟩)

/-- (*baize/topup.Bank).Back$1 -/
theorem back1_spec (b3 b4 : Nat) (now : Int) (b : Nat) (sa : Option Addr) (n sc : Nat) (nm : Int) (p : Nat) (tb : BitVec 64) (num un : Int) (aa pa : Option Addr) (an ac pn pc : Nat) (ad : List Int) (pu : List Bool) (haa : ad.length = an) (hpp : pu.length = pn) : Pure Try.prog 104 ([.pointer (some ⟨b3, 0, none⟩), .pointer (some ⟨b4, 0, none⟩)]).toArray (fun w => Row w [] (some ⟨b3, 0, none⟩) [.pointer (some ⟨b, 0, none⟩)] ∧ Row w [] (some ⟨b4, 0, none⟩) [I64 now] ∧ Row w [] (some ⟨b, 0, none⟩) (bkL (.slice sa n sc) nm (.pointer (some ⟨p, 0, none⟩))) ∧ Row w [] (some ⟨p, 0, none⟩) (pdL tb num (.slice aa an ac) un (.slice pa pn pc))) (.bool (decide (un < now))) := by
  refine spec_walk (n := 9) Try.func104 rfl rfl rfl (fun w0 hpre => ?_)
  refine gc_seq ?_
  refine gc_region ?_
  refine gl_cons (gs_val (val_assign rfl) rfl rfl rfl ?_)
  refine gl_nil ?_
  refine gk_seq ?_
  refine gc_seq ?_
  refine gc_drawAll kmixed (by kernel_rfl) ?_
  refine gq_val (val_load1 kag24 rfl ((sees_row hpre.1).part 0) rfl) rfl rfl rfl ?_
  refine gq_val (val_nilCheck rfl) rfl rfl rfl ?_
  refine gq_val (val_fieldAddr kfo154_2 rfl) rfl rfl rfl ?_
  refine gq_val (val_load1 kag152 rfl ((sees_row hpre.2.2.1).part 2) rfl) rfl rfl rfl ?_
  refine gq_val (val_load1 kag3 rfl ((sees_row hpre.2.1).part 0) rfl) rfl rfl rfl ?_
  refine gq_pure (enters kcall94 (.cons rfl (.cons rfl .nil))) (late_spec p tb num un (.slice aa an ac) (.slice pa pn pc) now) rfl rfl rfl (row_of_sees (sees_row hpre.2.2.2)) ?_
  refine gq_val (val_assign rfl) rfl rfl rfl ?_
  refine gq_nil ?_
  refine gl_nil ?_
  refine gk_seq ?_
  refine gc_ret ?_
  refine gk_ret rfl (resv_tmp rfl .nil) (List.nil_sublist _) ?_
  exact ⟨rfl, rfl⟩

/-- (*baize/topup.Bank).Back$2 -/
theorem back2_spec (b3 b5 : Nat) (seat : Int) (b : Nat) (sa : Option Addr) (n sc : Nat) (nm : Int) (p : Nat) (tb : BitVec 64) (num un : Int) (aa pa : Option Addr) (an ac pn pc : Nat) (ad : List Int) (pu : List Bool) (haa : ad.length = an) (hpp : pu.length = pn) (hsr : 0 ≤ seat ∧ seat < (pu.length : Int)) (hap : an = pn) (hb : an ≤ 100) : Pure Try.prog 105 ([.pointer (some ⟨b3, 0, none⟩), .pointer (some ⟨b5, 0, none⟩)]).toArray (fun w => Row w [] (some ⟨b3, 0, none⟩) [.pointer (some ⟨b, 0, none⟩)] ∧ Row w [] (some ⟨b5, 0, none⟩) [I64 seat] ∧ Row w [] (some ⟨b, 0, none⟩) (bkL (.slice sa n sc) nm (.pointer (some ⟨p, 0, none⟩))) ∧ Row w [] (some ⟨p, 0, none⟩) (pdL tb num (.slice aa an ac) un (.slice pa pn pc)) ∧ Row w [] aa (ad.map I64) ∧ Row w [] pa (pu.map Value.bool)) (.bool (decide (0 < (laidL ad pu).getD seat.toNat 0))) := by
  obtain ⟨i, rfl⟩ : ∃ i : Nat, seat = (i : Int) := ⟨seat.toNat, by omega⟩
  have hil : i < (laidL ad pu).length := by rw [laid_len (by omega)]; omega
  have hll := laid_len (l := ad) (p := pu) (by omega)
  refine spec_walk (n := 12) Try.func105 rfl rfl rfl (fun w0 hpre => ?_)
  refine gc_seq ?_
  refine gc_region ?_
  refine gl_cons (gs_val (val_assign rfl) rfl rfl rfl ?_)
  refine gl_nil ?_
  refine gk_seq ?_
  refine gc_seq ?_
  refine ga_start (m := 10) (ls := [false, false, false, false, false, false, false, false, false, false]) kmixed rfl rfl ?_
  apply share1 (α := Nat) (m' := 4) (ls' := [true, true, true, true, true, true, false, false, false, false])
  · intro hD0
    apply share0  (m' := 5) (ls' := [true, true, true, true, false, true, false, false, false, false])
    · intro hD1
      apply share0  (m' := 6) (ls' := [true, true, true, false, false, true, false, false, false, false])
      · intro hD2
        refine ga_branch (rs := [0, 5]) (by kernel_rfl) rfl (.cons (ls' := [true, false, false, false, false, false, false, false, false, false]) rfl rfl ?_ (.cons (ls' := [false, false, false, false, false, true, false, false, false, false]) rfl rfl ?_ .nil))
        · skip
          refine gs_val (val_load1 kag24 rfl ((sees_row hpre.1).part 0) rfl) rfl rfl rfl ?_
          refine ga_take (i := 1) (ls' := [true, true, false, false, false, false, false, false, false, false]) rfl (by kernel_rfl) rfl (fun _ _ _ => val_nilCheck rfl) rfl rfl rfl ?_
          refine ga_take (i := 2) (ls' := [true, true, true, false, false, false, false, false, false, false]) rfl (by kernel_rfl) rfl (fun _ _ _ => val_fieldAddr kfo154_2 rfl) rfl rfl rfl ?_
          refine ga_branch (rs := [3, 5]) (by kernel_rfl) rfl (.cons (ls' := [true, true, true, true, false, false, false, false, false, false]) rfl rfl ?_ (.cons (ls' := [true, true, true, false, false, true, false, false, false, false]) rfl rfl ?_ .nil))
          · skip
            refine gs_val (val_load1 kag152 rfl ((sees_row hpre.2.2.1).part 2) rfl) rfl rfl rfl ?_
            refine ga_branch (rs := [4, 5]) (by kernel_rfl) rfl (.cons (ls' := [true, true, true, true, true, false, false, false, false, false]) rfl rfl ?_ (.cons (ls' := [true, true, true, true, false, true, false, false, false, false]) rfl rfl ?_ .nil))
            · skip
              refine gs_makes (enters kcall88 (.cons rfl .nil)) (laid_spec p tb num un aa pa an ac pn pc ad pu haa hpp hap hb) rfl rfl rfl (fun w hi => ⟨(row_of_sees (sees_row hpre.2.2.2.1)) w hi, (row_of_sees (sees_row hpre.2.2.2.2.1)) w hi, (row_of_sees (sees_row hpre.2.2.2.2.2)) w hi⟩) (fun lb _ => ?_)
              refine ga_branch (rs := [5]) (by kernel_rfl) rfl (.cons (ls' := [true, true, true, true, true, true, false, false, false, false]) rfl rfl ?_ .nil)
              refine gs_val (val_load1 kag3 rfl ((sees_row hpre.2.1).part 0) rfl) rfl rfl rfl ?_
              refine gx_env (F := [(0, _), (1, _), (2, _), (3, _), (4, _), (5, _), (6, _), (7, _), (8, _)]) (.cons rfl (.cons rfl (.cons rfl (.cons rfl (.cons rfl (.cons rfl (.cons rfl (.cons rfl (.cons rfl .nil))))))))) (gx_perm (by first | exact .refl _ | (repeat (first | exact .refl _ | refine perm_take (by first | exact .head | exact .tail .head | exact .tail (.tail .head) | exact .tail (.tail (.tail .head)) | exact .tail (.tail (.tail (.tail .head))) | exact .tail (.tail (.tail (.tail (.tail .head))))) ?_ | refine perm_takeL (by repeat (first | exact .app | exact .here | apply TakeL.tail | apply TakeL.appr)) ?_ | refine perm_takeX (by repeat (first | exact .cons .head .nil | apply TakeL.tail | apply TakeL.appr)) ?_))) (hD0 lb True.intro))
            · skip
              refine gs_val (val_load1 kag3 rfl ((sees_row hpre.2.1).part 0) rfl) rfl rfl rfl ?_
              refine gx_env (F := [(0, _), (1, _), (2, _), (3, _), (4, _), (5, _), (6, _), (8, _)]) (.cons rfl (.cons rfl (.cons rfl (.cons rfl (.cons rfl (.cons rfl (.cons rfl (.cons rfl .nil)))))))) (gx_perm (by first | exact .refl _ | (repeat (first | exact .refl _ | refine perm_take (by first | exact .head | exact .tail .head | exact .tail (.tail .head) | exact .tail (.tail (.tail .head)) | exact .tail (.tail (.tail (.tail .head))) | exact .tail (.tail (.tail (.tail (.tail .head))))) ?_ | refine perm_takeL (by repeat (first | exact .app | exact .here | apply TakeL.tail | apply TakeL.appr)) ?_ | refine perm_takeX (by repeat (first | exact .cons .head .nil | apply TakeL.tail | apply TakeL.appr)) ?_))) (hD1  True.intro))
          · skip
            refine gs_val (val_load1 kag3 rfl ((sees_row hpre.2.1).part 0) rfl) rfl rfl rfl ?_
            refine gx_env (F := [(0, _), (1, _), (2, _), (3, _), (4, _), (5, _), (8, _)]) (.cons rfl (.cons rfl (.cons rfl (.cons rfl (.cons rfl (.cons rfl (.cons rfl .nil))))))) (gx_perm (by first | exact .refl _ | (repeat (first | exact .refl _ | refine perm_take (by first | exact .head | exact .tail .head | exact .tail (.tail .head) | exact .tail (.tail (.tail .head)) | exact .tail (.tail (.tail (.tail .head))) | exact .tail (.tail (.tail (.tail (.tail .head))))) ?_ | refine perm_takeL (by repeat (first | exact .app | exact .here | apply TakeL.tail | apply TakeL.appr)) ?_ | refine perm_takeX (by repeat (first | exact .cons .head .nil | apply TakeL.tail | apply TakeL.appr)) ?_))) (hD2  True.intro))
        · skip
          refine gs_val (val_load1 kag3 rfl ((sees_row hpre.2.1).part 0) rfl) rfl rfl rfl ?_
          refine ga_branch (rs := [0]) (by kernel_rfl) rfl (.cons (ls' := [true, false, false, false, false, true, false, false, false, false]) rfl rfl ?_ .nil)
          refine gs_val (val_load1 kag24 rfl ((sees_row hpre.1).part 0) rfl) rfl rfl rfl ?_
          refine ga_take (i := 1) (ls' := [true, true, false, false, false, true, false, false, false, false]) rfl (by kernel_rfl) rfl (fun _ _ _ => val_nilCheck rfl) rfl rfl rfl ?_
          refine ga_take (i := 2) (ls' := [true, true, true, false, false, true, false, false, false, false]) rfl (by kernel_rfl) rfl (fun _ _ _ => val_fieldAddr kfo154_2 rfl) rfl rfl rfl ?_
          refine gx_env (F := [(0, _), (1, _), (2, _), (3, _), (4, _), (5, _), (8, _)]) (.cons rfl (.cons rfl (.cons rfl (.cons rfl (.cons rfl (.cons rfl (.cons rfl .nil))))))) (gx_perm (by first | exact .refl _ | (repeat (first | exact .refl _ | refine perm_take (by first | exact .head | exact .tail .head | exact .tail (.tail .head) | exact .tail (.tail (.tail .head)) | exact .tail (.tail (.tail (.tail .head))) | exact .tail (.tail (.tail (.tail (.tail .head))))) ?_ | refine perm_takeL (by repeat (first | exact .app | exact .here | apply TakeL.tail | apply TakeL.appr)) ?_ | refine perm_takeX (by repeat (first | exact .cons .head .nil | apply TakeL.tail | apply TakeL.appr)) ?_))) (hD2  True.intro))
      · rintro  _
        refine ga_branch (rs := [3]) (by kernel_rfl) rfl (.cons (ls' := [true, true, true, true, false, true, false, false, false, false]) rfl rfl ?_ .nil)
        refine gs_val (val_load1 kag152 rfl ((sees_row hpre.2.2.1).part 2) rfl) rfl rfl rfl ?_
        refine gx_env (F := [(0, _), (1, _), (2, _), (3, _), (4, _), (5, _), (6, _), (8, _)]) (.cons rfl (.cons rfl (.cons rfl (.cons rfl (.cons rfl (.cons rfl (.cons rfl (.cons rfl .nil)))))))) (gx_perm (by first | exact .refl _ | (repeat (first | exact .refl _ | refine perm_take (by first | exact .head | exact .tail .head | exact .tail (.tail .head) | exact .tail (.tail (.tail .head)) | exact .tail (.tail (.tail (.tail .head))) | exact .tail (.tail (.tail (.tail (.tail .head))))) ?_ | refine perm_takeL (by repeat (first | exact .app | exact .here | apply TakeL.tail | apply TakeL.appr)) ?_ | refine perm_takeX (by repeat (first | exact .cons .head .nil | apply TakeL.tail | apply TakeL.appr)) ?_))) (hD1  True.intro))
    · rintro  _
      refine ga_branch (rs := [4]) (by kernel_rfl) rfl (.cons (ls' := [true, true, true, true, true, true, false, false, false, false]) rfl rfl ?_ .nil)
      refine gs_makes (enters kcall88 (.cons rfl .nil)) (laid_spec p tb num un aa pa an ac pn pc ad pu haa hpp hap hb) rfl rfl rfl (fun w hi => ⟨(row_of_sees (sees_row hpre.2.2.2.1)) w hi, (row_of_sees (sees_row hpre.2.2.2.2.1)) w hi, (row_of_sees (sees_row hpre.2.2.2.2.2)) w hi⟩) (fun lb _ => ?_)
      refine gx_env (F := [(0, _), (1, _), (2, _), (3, _), (4, _), (5, _), (6, _), (7, _), (8, _)]) (.cons rfl (.cons rfl (.cons rfl (.cons rfl (.cons rfl (.cons rfl (.cons rfl (.cons rfl (.cons rfl .nil))))))))) (gx_perm (by first | exact .refl _ | (repeat (first | exact .refl _ | refine perm_take (by first | exact .head | exact .tail .head | exact .tail (.tail .head) | exact .tail (.tail (.tail .head)) | exact .tail (.tail (.tail (.tail .head))) | exact .tail (.tail (.tail (.tail (.tail .head))))) ?_ | refine perm_takeL (by repeat (first | exact .app | exact .here | apply TakeL.tail | apply TakeL.appr)) ?_ | refine perm_takeX (by repeat (first | exact .cons .head .nil | apply TakeL.tail | apply TakeL.appr)) ?_))) (hD0 lb True.intro))
  · rintro lb _
    refine ga_branch (rs := [6]) (by kernel_rfl) rfl (.cons (ls' := [true, true, true, true, true, true, true, false, false, false]) rfl rfl ?_ .nil)
    refine gs_val (val_cast (v := .pointer (some ⟨lb, 0 + i * 1, none⟩)) (val_indexSli (m := i) ksl22 rfl rfl rfl (by omega) (sees_all (by repeat (first | exact .head _ | refine .tail _ ?_ | refine List.mem_append_right _ ?_))) (by rw [List.length_map]; omega)) (idx_eq rfl)) rfl rfl rfl ?_
    refine ga_branch (rs := [7]) (by kernel_rfl) rfl (.cons (ls' := [true, true, true, true, true, true, true, true, false, false]) rfl rfl ?_ .nil)
    refine gs_val (val_load1 kag3 rfl ((show Sees _ _ _ (some ⟨lb, 0, none⟩) ((laidL ad pu).map I64) from sees_all (by repeat (first | exact .head _ | refine .tail _ ?_ | refine List.mem_append_right _ ?_))).at' hil) rfl) rfl rfl rfl ?_
    refine ga_take (i := 8) (ls' := [true, true, true, true, true, true, true, true, true, false]) rfl (by kernel_rfl) rfl (fun _ _ _ => val_gtr rfl rfl) rfl rfl rfl ?_
    refine ga_take (i := 9) (ls' := [true, true, true, true, true, true, true, true, true, true]) rfl (by kernel_rfl) rfl (fun _ _ _ => val_assign rfl) rfl rfl rfl ?_
    refine ga_done (by kernel_rfl) ?_
    refine gk_seq ?_
    refine gc_ret ?_
    refine gk_ret rfl (resv_tmp rfl .nil) (List.nil_sublist _) ?_
    exact ⟨congrArg Value.bool (by rw [getD_nat hil]), rfl⟩

/-- (*baize/topup.Bank).Back -/
theorem back_nil (now seat : Int) : Pure Try.prog 28 ([.pointer none, I64 now, I64 seat]).toArray (fun _ => True) (.tuple #[I64 0, I64 1]) := by
  refine spec_walk (n := 57) Try.func28 rfl rfl rfl (fun w0 hpre => ?_)
  refine gc_seq ?_
  refine gc_region ?_
  refine gl_cons (gs_box rfl rfl rfl rfl (fun b3 => ?_))
  refine gl_cons (gs_box rfl rfl rfl rfl (fun b4 => ?_))
  refine gl_cons (gs_box rfl rfl rfl rfl (fun b5 => ?_))
  refine gl_cons (gs_val (val_assign rfl) rfl rfl rfl ?_)
  refine gl_cons (gs_val (val_assign rfl) rfl rfl rfl ?_)
  refine gl_nil ?_
  refine gk_seq ?_
  refine gc_seq ?_
  refine gc_seq ?_
  refine gc_region ?_
  refine gl_cons (gs_val (val_load1 kag24 rfl (sees_mem (by repeat (first | exact .head _ | refine .tail _ ?_ | refine List.mem_append_right _ ?_))) rfl) rfl rfl rfl ?_)
  refine gl_cons (gs_val (val_eqlNil kun24 rfl rfl) rfl rfl rfl ?_)
  refine gl_nil ?_
  refine gk_seq ?_
  refine gc_true rfl ?_
  refine gc_seq ?_
  refine gc_region ?_
  refine gl_cons (gs_val (val_assign rfl) rfl rfl rfl ?_)
  refine gl_cons (gs_val (val_assign rfl) rfl rfl rfl ?_)
  refine gl_nil ?_
  refine gk_seq ?_
  refine gc_ret ?_
  refine gk_seq_ret ?_
  refine gk_ret rfl (resv_tmp rfl (resv_tmp rfl .nil)) (List.nil_sublist _) ?_
  exact ⟨rfl, rfl⟩

set_option maxRecDepth 8000 in
set_option maxHeartbeats 1000000 in
/-- (*baize/topup.Bank).Back -/
theorem back_none (b : Nat) (sa : Option Addr) (sc : Nat) (nm : Int) (st : List Int) (now seat : Int) : Pure Try.prog 28 ([.pointer (some ⟨b, 0, none⟩), I64 now, I64 seat]).toArray (fun w => Row w [] (some ⟨b, 0, none⟩) (bkL (.slice sa st.length sc) nm (.pointer none))) (.tuple #[I64 0, I64 9]) := by
  refine spec_walk (n := 57) Try.func28 rfl rfl rfl (fun w0 hpre => ?_)
  refine gc_seq ?_
  refine gc_region ?_
  refine gl_cons (gs_box rfl rfl rfl rfl (fun b3 => ?_))
  refine gl_cons (gs_box rfl rfl rfl rfl (fun b4 => ?_))
  refine gl_cons (gs_box rfl rfl rfl rfl (fun b5 => ?_))
  refine gl_cons (gs_val (val_assign rfl) rfl rfl rfl ?_)
  refine gl_cons (gs_val (val_assign rfl) rfl rfl rfl ?_)
  refine gl_nil ?_
  refine gk_seq ?_
  refine gc_seq ?_
  refine gc_seq ?_
  refine gc_region ?_
  refine gl_cons (gs_val (val_load1 kag24 rfl (sees_mem (by repeat (first | exact .head _ | refine .tail _ ?_ | refine List.mem_append_right _ ?_))) rfl) rfl rfl rfl ?_)
  refine gl_cons (gs_val (val_eqlNil kun24 rfl rfl) rfl rfl rfl ?_)
  refine gl_nil ?_
  refine gk_seq ?_
  refine gc_false rfl ?_
  refine gc_skip ?_
  refine gk_seq ?_
  refine gc_seq ?_
  refine gc_region ?_
  refine gl_cons (gs_val (val_load1 kag24 rfl (sees_mem (by repeat (first | exact .head _ | refine .tail _ ?_ | refine List.mem_append_right _ ?_))) rfl) rfl rfl rfl ?_)
  refine gl_cons (gs_val (val_load1 kag3 rfl (sees_mem (by repeat (first | exact .head _ | refine .tail _ ?_ | refine List.mem_append_right _ ?_))) rfl) rfl rfl rfl ?_)
  refine gl_cons (gs_val (val_load1 kag3 rfl (sees_mem (by repeat (first | exact .head _ | refine .tail _ ?_ | refine List.mem_append_right _ ?_))) rfl) rfl rfl rfl ?_)
  refine gl_cons (gs_makes (enters kcall99 (.cons rfl (.cons rfl (.cons rfl .nil)))) (asked_spec b now seat) rfl rfl rfl (fun _ _ => trivial) (fun ⟨rb, c5, c4, c3⟩ _ => ?_))
  refine gx_perm (.refl (_ :: _ :: _ :: _ :: _)) ?_
  refine gl_cons (gs_val (val_makeFunc .nil (.cons rfl (.cons rfl .nil))) rfl rfl rfl ?_)
  refine gl_cons (gs_val (val_buildStr kze148 kpl148 (.cons rfl (.cons rfl .nil)) rfl (.cons rfl rfl rfl (by simp) (by first | ((with_reducible refine splice_all _ _ ?_); simp; done) | (simp only [splice, stL, digL, List.take_succ_cons, List.take_zero, List.drop_succ_cons, List.drop_zero, List.length_cons, List.length_nil, Nat.reduceAdd, Nat.reduceMul, Nat.zero_add, Nat.zero_mul, List.cons_append, List.nil_append]; exact rfl)) (.cons rfl rfl rfl (by simp) (by first | ((with_reducible refine splice_all _ _ ?_); simp; done) | (simp only [splice, stL, digL, List.take_succ_cons, List.take_zero, List.drop_succ_cons, List.drop_zero, List.length_cons, List.length_nil, Nat.reduceAdd, Nat.reduceMul, Nat.zero_add, Nat.zero_mul, List.cons_append, List.nil_append]; exact rfl)) .nil))) rfl rfl rfl ?_)
  refine gl_cons (gs_val (val_makeFunc .nil (.cons rfl (.cons rfl .nil))) rfl rfl rfl ?_)
  refine gl_cons (gs_val (val_buildStr kze148 kpl148 (.cons rfl (.cons rfl .nil)) rfl (.cons rfl rfl rfl (by simp) (by first | ((with_reducible refine splice_all _ _ ?_); simp; done) | (simp only [splice, stL, digL, List.take_succ_cons, List.take_zero, List.drop_succ_cons, List.drop_zero, List.length_cons, List.length_nil, Nat.reduceAdd, Nat.reduceMul, Nat.zero_add, Nat.zero_mul, List.cons_append, List.nil_append]; exact rfl)) (.cons rfl rfl rfl (by simp) (by first | ((with_reducible refine splice_all _ _ ?_); simp; done) | (simp only [splice, stL, digL, List.take_succ_cons, List.take_zero, List.drop_succ_cons, List.drop_zero, List.length_cons, List.length_nil, Nat.reduceAdd, Nat.reduceMul, Nat.zero_add, Nat.zero_mul, List.cons_append, List.nil_append]; exact rfl)) .nil))) rfl rfl rfl ?_)
  refine gl_cons (gs_buildSlice (zs := [.nilFunc, .int .i64 0, .nilFunc, .int .i64 0]) ksl158 kze148 rfl rfl (.cons rfl (.cons rfl .nil)) (.cons rfl rfl rfl (by simp) (by first | ((with_reducible refine splice_all _ _ ?_); simp; done) | (simp only [splice, stL, digL, List.take_succ_cons, List.take_zero, List.drop_succ_cons, List.drop_zero, List.length_cons, List.length_nil, Nat.reduceAdd, Nat.reduceMul, Nat.zero_add, Nat.zero_mul, List.cons_append, List.nil_append]; exact rfl)) (.cons rfl rfl rfl (by simp) (by first | ((with_reducible refine splice_all _ _ ?_); simp; done) | (simp only [splice, stL, digL, List.take_succ_cons, List.take_zero, List.drop_succ_cons, List.drop_zero, List.length_cons, List.length_nil, Nat.reduceAdd, Nat.reduceMul, Nat.zero_add, Nat.zero_mul, List.cons_append, List.nil_append]; exact rfl)) .nil)) rfl rfl (fun b20 => ?_))
  refine gl_cons (gs_append ksl158 kze148 rfl rfl rfl rfl rfl rfl (own_lit (e := 148) (size := 2) (n := 3) (b := rb) (xs := (([⟨149, [.pointer (some ⟨c3, 0, none⟩)], 9⟩, ⟨150, [.pointer (some ⟨c5, 0, none⟩), .pointer (some ⟨c3, 0, none⟩)], 28⟩, ⟨151, [.pointer (some ⟨c4, 0, none⟩)], 2⟩] : List Ru).flatMap Ru.L)) rfl) (fun _ => by first | exact .here | exact .headR | exact .app | exact .tail .here | exact .tail .headR | exact .tail .app | exact .tail (.tail .here) | exact .tail (.tail .headR) | exact .tail (.tail .app) | exact .tail (.tail (.tail .here)) | exact .tail (.tail (.tail .headR)) | exact .tail (.tail (.tail .app)) | exact .tail (.tail (.tail (.tail .here))) | exact .tail (.tail (.tail (.tail .headR))) | exact .tail (.tail (.tail (.tail .app))) | exact .tail (.tail (.tail (.tail (.tail .here)))) | exact .tail (.tail (.tail (.tail (.tail .headR)))) | exact .tail (.tail (.tail (.tail (.tail .app)))) | exact .appr .here | exact .appr .headR | exact .appr .app | exact .tail (.appr .here) | exact .tail (.appr .headR) | exact .tail (.appr .app) | exact .tail (.tail (.appr .here)) | exact .tail (.tail (.appr .headR)) | exact .tail (.tail (.appr .app)) | exact .appr (.tail .here) | exact .appr (.tail .headR) | exact .appr (.tail .app) | exact .appr (.tail (.tail .here)) | exact .appr (.tail (.tail .headR)) | exact .appr (.tail (.tail .app)) | exact .appr (.appr .here) | exact .appr (.appr .headR) | exact .appr (.appr .app) | exact .tail (.appr (.appr .here)) | exact .tail (.appr (.appr .headR)) | exact .tail (.appr (.appr .app)) | exact .appr (.appr (.tail .here)) | exact .appr (.appr (.tail .headR)) | exact .appr (.appr (.tail .app)) | exact .appr (.appr (.appr .here)) | exact .appr (.appr (.appr .headR)) | exact .appr (.appr (.appr .app))) (brings_slice ksl158 (sees_all (by repeat (first | exact .head _ | refine .tail _ ?_ | refine List.mem_append_right _ ?_))) rfl (fun v hv => List.all_eq_true.1 rfl v hv)) (by decide) (fun ba21 c21 N21 hown21 => ?_))
  refine gl_cons (gs_pure (enters kcall79 (.cons rfl .nil)) (first_spec ba21 5 c21 [⟨149, [.pointer (some ⟨c3, 0, none⟩)], 9⟩, ⟨150, [.pointer (some ⟨c5, 0, none⟩), .pointer (some ⟨c3, 0, none⟩)], 28⟩, ⟨151, [.pointer (some ⟨c4, 0, none⟩)], 2⟩, ⟨104, [.pointer (some ⟨b3, 0, none⟩), .pointer (some ⟨b4, 0, none⟩)], 20⟩, ⟨105, [.pointer (some ⟨b3, 0, none⟩), .pointer (some ⟨b5, 0, none⟩)], 21⟩] 9 (fun w => Row w [] (some ⟨c3, 0, none⟩) [.pointer (some ⟨b, 0, none⟩)] ∧ Row w [] (some ⟨b, 0, none⟩) (bkL (.slice sa st.length sc) nm (.pointer none))) (stable_and stable_row stable_row) (.stop kcall149 (asked1_none c3 b sa st.length sc nm)) rfl (by decide)) rfl rfl rfl (fun w hi => ⟨row_of_sees (hown21.look (by repeat (first | exact .here | exact .headR | exact .app | refine .tail ?_ | refine .appr ?_))) w hi, row_of_sees (sees_all (by repeat (first | exact .head _ | refine .tail _ ?_ | refine List.mem_append_right _ ?_))) w hi, row_of_sees (sees_row hpre) w hi⟩) ?_)
  refine gl_cons (gs_val (val_assign rfl) rfl rfl rfl ?_)
  refine gl_nil ?_
  refine gk_seq ?_
  refine gc_seq ?_
  refine gc_seq ?_
  refine gc_region ?_
  refine gl_cons (gs_val (val_move rfl) rfl rfl rfl ?_)
  refine gl_cons (gs_val (val_yes (val_neq rfl rfl) (by decide)) rfl rfl rfl ?_)
  refine gl_nil ?_
  refine gk_seq ?_
  refine gc_true rfl ?_
  refine gc_seq ?_
  refine gc_region ?_
  refine gl_cons (gs_val (val_move rfl) rfl rfl rfl ?_)
  refine gl_cons (gs_val (val_assign rfl) rfl rfl rfl ?_)
  refine gl_cons (gs_val (val_assign rfl) rfl rfl rfl ?_)
  refine gl_nil ?_
  refine gk_seq ?_
  refine gc_ret ?_
  refine gk_seq_ret ?_
  refine gk_ret rfl (resv_tmp rfl (resv_tmp rfl .nil)) (List.nil_sublist _) ?_
  exact ⟨rfl, rfl⟩

set_option maxRecDepth 8000 in
set_option maxHeartbeats 1000000 in
/-- (*baize/topup.Bank).Back -/
theorem back_err (b : Nat) (sa : Option Addr) (sc : Nat) (nm : Int) (st : List Int) (now seat : Int) (p : Nat) (tb : BitVec 64) (num un : Int) (aa pa : Option Addr) (ac pc : Nat) (ad : List Int) (pu : List Bool) (hq1 : ad.length = st.length) (hq2 : pu.length = st.length) (h8 : st.length ≤ 8) (he : ¬ backE ⟨st, nm, some ⟨tb, num, ad, un, pu⟩⟩ now seat = 0) : Pure Try.prog 28 ([.pointer (some ⟨b, 0, none⟩), I64 now, I64 seat]).toArray (fun w => Row w [] (some ⟨b, 0, none⟩) (bkL (.slice sa st.length sc) nm (.pointer (some ⟨p, 0, none⟩))) ∧ Row w [] (some ⟨p, 0, none⟩) (pdL tb num (.slice aa ad.length ac) un (.slice pa pu.length pc)) ∧ Row w [] aa (ad.map I64) ∧ Row w [] pa (pu.map Value.bool)) (.tuple #[I64 0, I64 (backE ⟨st, nm, some ⟨tb, num, ad, un, pu⟩⟩ now seat)]) := by
  refine spec_walk (n := 57) Try.func28 rfl rfl rfl (fun w0 hpre => ?_)
  refine gc_seq ?_
  refine gc_region ?_
  refine gl_cons (gs_box rfl rfl rfl rfl (fun b3 => ?_))
  refine gl_cons (gs_box rfl rfl rfl rfl (fun b4 => ?_))
  refine gl_cons (gs_box rfl rfl rfl rfl (fun b5 => ?_))
  refine gl_cons (gs_val (val_assign rfl) rfl rfl rfl ?_)
  refine gl_cons (gs_val (val_assign rfl) rfl rfl rfl ?_)
  refine gl_nil ?_
  refine gk_seq ?_
  refine gc_seq ?_
  refine gc_seq ?_
  refine gc_region ?_
  refine gl_cons (gs_val (val_load1 kag24 rfl (sees_mem (by repeat (first | exact .head _ | refine .tail _ ?_ | refine List.mem_append_right _ ?_))) rfl) rfl rfl rfl ?_)
  refine gl_cons (gs_val (val_eqlNil kun24 rfl rfl) rfl rfl rfl ?_)
  refine gl_nil ?_
  refine gk_seq ?_
  refine gc_false rfl ?_
  refine gc_skip ?_
  refine gk_seq ?_
  refine gc_seq ?_
  refine gc_region ?_
  refine gl_cons (gs_val (val_load1 kag24 rfl (sees_mem (by repeat (first | exact .head _ | refine .tail _ ?_ | refine List.mem_append_right _ ?_))) rfl) rfl rfl rfl ?_)
  refine gl_cons (gs_val (val_load1 kag3 rfl (sees_mem (by repeat (first | exact .head _ | refine .tail _ ?_ | refine List.mem_append_right _ ?_))) rfl) rfl rfl rfl ?_)
  refine gl_cons (gs_val (val_load1 kag3 rfl (sees_mem (by repeat (first | exact .head _ | refine .tail _ ?_ | refine List.mem_append_right _ ?_))) rfl) rfl rfl rfl ?_)
  refine gl_cons (gs_makes (enters kcall99 (.cons rfl (.cons rfl (.cons rfl .nil)))) (asked_spec b now seat) rfl rfl rfl (fun _ _ => trivial) (fun ⟨rb, c5, c4, c3⟩ _ => ?_))
  refine gx_perm (.refl (_ :: _ :: _ :: _ :: _)) ?_
  refine gl_cons (gs_val (val_makeFunc .nil (.cons rfl (.cons rfl .nil))) rfl rfl rfl ?_)
  refine gl_cons (gs_val (val_buildStr kze148 kpl148 (.cons rfl (.cons rfl .nil)) rfl (.cons rfl rfl rfl (by simp) (by first | ((with_reducible refine splice_all _ _ ?_); simp; done) | (simp only [splice, stL, digL, List.take_succ_cons, List.take_zero, List.drop_succ_cons, List.drop_zero, List.length_cons, List.length_nil, Nat.reduceAdd, Nat.reduceMul, Nat.zero_add, Nat.zero_mul, List.cons_append, List.nil_append]; exact rfl)) (.cons rfl rfl rfl (by simp) (by first | ((with_reducible refine splice_all _ _ ?_); simp; done) | (simp only [splice, stL, digL, List.take_succ_cons, List.take_zero, List.drop_succ_cons, List.drop_zero, List.length_cons, List.length_nil, Nat.reduceAdd, Nat.reduceMul, Nat.zero_add, Nat.zero_mul, List.cons_append, List.nil_append]; exact rfl)) .nil))) rfl rfl rfl ?_)
  refine gl_cons (gs_val (val_makeFunc .nil (.cons rfl (.cons rfl .nil))) rfl rfl rfl ?_)
  refine gl_cons (gs_val (val_buildStr kze148 kpl148 (.cons rfl (.cons rfl .nil)) rfl (.cons rfl rfl rfl (by simp) (by first | ((with_reducible refine splice_all _ _ ?_); simp; done) | (simp only [splice, stL, digL, List.take_succ_cons, List.take_zero, List.drop_succ_cons, List.drop_zero, List.length_cons, List.length_nil, Nat.reduceAdd, Nat.reduceMul, Nat.zero_add, Nat.zero_mul, List.cons_append, List.nil_append]; exact rfl)) (.cons rfl rfl rfl (by simp) (by first | ((with_reducible refine splice_all _ _ ?_); simp; done) | (simp only [splice, stL, digL, List.take_succ_cons, List.take_zero, List.drop_succ_cons, List.drop_zero, List.length_cons, List.length_nil, Nat.reduceAdd, Nat.reduceMul, Nat.zero_add, Nat.zero_mul, List.cons_append, List.nil_append]; exact rfl)) .nil))) rfl rfl rfl ?_)
  refine gl_cons (gs_buildSlice (zs := [.nilFunc, .int .i64 0, .nilFunc, .int .i64 0]) ksl158 kze148 rfl rfl (.cons rfl (.cons rfl .nil)) (.cons rfl rfl rfl (by simp) (by first | ((with_reducible refine splice_all _ _ ?_); simp; done) | (simp only [splice, stL, digL, List.take_succ_cons, List.take_zero, List.drop_succ_cons, List.drop_zero, List.length_cons, List.length_nil, Nat.reduceAdd, Nat.reduceMul, Nat.zero_add, Nat.zero_mul, List.cons_append, List.nil_append]; exact rfl)) (.cons rfl rfl rfl (by simp) (by first | ((with_reducible refine splice_all _ _ ?_); simp; done) | (simp only [splice, stL, digL, List.take_succ_cons, List.take_zero, List.drop_succ_cons, List.drop_zero, List.length_cons, List.length_nil, Nat.reduceAdd, Nat.reduceMul, Nat.zero_add, Nat.zero_mul, List.cons_append, List.nil_append]; exact rfl)) .nil)) rfl rfl (fun b20 => ?_))
  refine gl_cons (gs_append ksl158 kze148 rfl rfl rfl rfl rfl rfl (own_lit (e := 148) (size := 2) (n := 3) (b := rb) (xs := (([⟨149, [.pointer (some ⟨c3, 0, none⟩)], 9⟩, ⟨150, [.pointer (some ⟨c5, 0, none⟩), .pointer (some ⟨c3, 0, none⟩)], 28⟩, ⟨151, [.pointer (some ⟨c4, 0, none⟩)], 2⟩] : List Ru).flatMap Ru.L)) rfl) (fun _ => by first | exact .here | exact .headR | exact .app | exact .tail .here | exact .tail .headR | exact .tail .app | exact .tail (.tail .here) | exact .tail (.tail .headR) | exact .tail (.tail .app) | exact .tail (.tail (.tail .here)) | exact .tail (.tail (.tail .headR)) | exact .tail (.tail (.tail .app)) | exact .tail (.tail (.tail (.tail .here))) | exact .tail (.tail (.tail (.tail .headR))) | exact .tail (.tail (.tail (.tail .app))) | exact .tail (.tail (.tail (.tail (.tail .here)))) | exact .tail (.tail (.tail (.tail (.tail .headR)))) | exact .tail (.tail (.tail (.tail (.tail .app)))) | exact .appr .here | exact .appr .headR | exact .appr .app | exact .tail (.appr .here) | exact .tail (.appr .headR) | exact .tail (.appr .app) | exact .tail (.tail (.appr .here)) | exact .tail (.tail (.appr .headR)) | exact .tail (.tail (.appr .app)) | exact .appr (.tail .here) | exact .appr (.tail .headR) | exact .appr (.tail .app) | exact .appr (.tail (.tail .here)) | exact .appr (.tail (.tail .headR)) | exact .appr (.tail (.tail .app)) | exact .appr (.appr .here) | exact .appr (.appr .headR) | exact .appr (.appr .app) | exact .tail (.appr (.appr .here)) | exact .tail (.appr (.appr .headR)) | exact .tail (.appr (.appr .app)) | exact .appr (.appr (.tail .here)) | exact .appr (.appr (.tail .headR)) | exact .appr (.appr (.tail .app)) | exact .appr (.appr (.appr .here)) | exact .appr (.appr (.appr .headR)) | exact .appr (.appr (.appr .app))) (brings_slice ksl158 (sees_all (by repeat (first | exact .head _ | refine .tail _ ?_ | refine List.mem_append_right _ ?_))) rfl (fun v hv => List.all_eq_true.1 rfl v hv)) (by decide) (fun ba21 c21 N21 hown21 => ?_))
  refine gl_cons (gs_pure (enters kcall79 (.cons rfl .nil)) (first_spec ba21 5 c21 [⟨149, [.pointer (some ⟨c3, 0, none⟩)], 9⟩, ⟨150, [.pointer (some ⟨c5, 0, none⟩), .pointer (some ⟨c3, 0, none⟩)], 28⟩, ⟨151, [.pointer (some ⟨c4, 0, none⟩)], 2⟩, ⟨104, [.pointer (some ⟨b3, 0, none⟩), .pointer (some ⟨b4, 0, none⟩)], 20⟩, ⟨105, [.pointer (some ⟨b3, 0, none⟩), .pointer (some ⟨b5, 0, none⟩)], 21⟩] (backE ⟨st, nm, some ⟨tb, num, ad, un, pu⟩⟩ now seat) (fun w => Row w [] (some ⟨c3, 0, none⟩) [.pointer (some ⟨b, 0, none⟩)] ∧ Row w [] (some ⟨c4, 0, none⟩) [I64 now] ∧ Row w [] (some ⟨c5, 0, none⟩) [I64 seat] ∧ Row w [] (some ⟨b3, 0, none⟩) [.pointer (some ⟨b, 0, none⟩)] ∧ Row w [] (some ⟨b4, 0, none⟩) [I64 now] ∧ Row w [] (some ⟨b5, 0, none⟩) [I64 seat] ∧ Row w [] (some ⟨b, 0, none⟩) (bkL (.slice sa st.length sc) nm (.pointer (some ⟨p, 0, none⟩))) ∧ Row w [] (some ⟨p, 0, none⟩) (pdL tb num (.slice aa ad.length ac) un (.slice pa pu.length pc)) ∧ Row w [] aa (ad.map I64) ∧ Row w [] pa (pu.map Value.bool)) (stable_and stable_row (stable_and stable_row (stable_and stable_row (stable_and stable_row (stable_and stable_row (stable_and stable_row (stable_and stable_row (stable_and stable_row (stable_and stable_row stable_row))))))))) (AllR.ok kcall149 (pure_pre (asked1_some c3 p b sa st.length sc nm) (fun w h => ⟨h.1, h.2.2.2.2.2.2.1⟩)) (AllR.if' kcall150 (pure_pre (asked2_spec c5 c3 seat (.pointer (some ⟨p, 0, none⟩)) b sa st.length sc nm) (fun w h => ⟨h.2.2.1, h.1, h.2.2.2.2.2.2.1⟩)) (fun g2 => AllR.if' kcall151 (pure_pre (asked3_spec c4 now) (fun w h => h.2.1)) (fun g3 => AllR.if' kcall104 (pure_pre (back1_spec b3 b4 now b sa st.length sc nm p tb num un aa pa ad.length ac pu.length pc ad pu rfl rfl) (fun w h => ⟨h.2.2.2.1, h.2.2.2.2.1, h.2.2.2.2.2.2.1, h.2.2.2.2.2.2.2.1⟩)) (fun g4 => AllR.if' kcall105 (pure_pre (back2_spec b3 b5 seat b sa st.length sc nm p tb num un aa pa ad.length ac pu.length pc ad pu rfl rfl (by have e1 : 0 ≤ seat ∧ seat < (st.length : Int) := of_decide_eq_true g2; omega) (by omega) (by omega)) (fun w h => ⟨h.2.2.2.1, h.2.2.2.2.2.1, h.2.2.2.2.2.2.1, h.2.2.2.2.2.2.2.1, h.2.2.2.2.2.2.2.2.1, h.2.2.2.2.2.2.2.2.2⟩)) (fun g5 => .nil)))))) rfl (by decide)) rfl rfl rfl (fun w hi => ⟨row_of_sees (hown21.look (by repeat (first | exact .here | exact .headR | exact .app | refine .tail ?_ | refine .appr ?_))) w hi, (row_of_sees (sees_all (by repeat (first | exact .head _ | refine .tail _ ?_ | refine List.mem_append_right _ ?_)))) w hi, (row_of_sees (sees_all (by repeat (first | exact .head _ | refine .tail _ ?_ | refine List.mem_append_right _ ?_)))) w hi, (row_of_sees (sees_all (by repeat (first | exact .head _ | refine .tail _ ?_ | refine List.mem_append_right _ ?_)))) w hi, (row_of_sees (sees_all (by repeat (first | exact .head _ | refine .tail _ ?_ | refine List.mem_append_right _ ?_)))) w hi, (row_of_sees (sees_all (by repeat (first | exact .head _ | refine .tail _ ?_ | refine List.mem_append_right _ ?_)))) w hi, (row_of_sees (sees_all (by repeat (first | exact .head _ | refine .tail _ ?_ | refine List.mem_append_right _ ?_)))) w hi, (row_of_sees (sees_row hpre.1)) w hi, (row_of_sees (sees_row hpre.2.1)) w hi, (row_of_sees (sees_row hpre.2.2.1)) w hi, (row_of_sees (sees_row hpre.2.2.2)) w hi⟩) ?_)
  refine gl_cons (gs_val (val_assign rfl) rfl rfl rfl ?_)
  refine gl_nil ?_
  refine gk_seq ?_
  refine gc_seq ?_
  refine gc_seq ?_
  refine gc_region ?_
  refine gl_cons (gs_val (val_move rfl) rfl rfl rfl ?_)
  refine gl_cons (gs_val (val_yes (val_neq rfl rfl) he) rfl rfl rfl ?_)
  refine gl_nil ?_
  refine gk_seq ?_
  refine gc_true rfl ?_
  refine gc_seq ?_
  refine gc_region ?_
  refine gl_cons (gs_val (val_move rfl) rfl rfl rfl ?_)
  refine gl_cons (gs_val (val_assign rfl) rfl rfl rfl ?_)
  refine gl_cons (gs_val (val_assign rfl) rfl rfl rfl ?_)
  refine gl_nil ?_
  refine gk_seq ?_
  refine gc_ret ?_
  refine gk_seq_ret ?_
  refine gk_ret rfl (resv_tmp rfl (resv_tmp rfl .nil)) (List.nil_sublist _) ?_
  exact ⟨rfl, rfl⟩

set_option maxRecDepth 8000 in
set_option maxHeartbeats 1000000 in
/-- (*baize/topup.Bank).Back -/
theorem back_more (b : Nat) (sa : Option Addr) (sc : Nat) (nm : Int) (st : List Int) (now : Int) (i : Nat) (p : Nat) (tb : BitVec 64) (num un : Int) (aa : Option Addr) (ac pc q : Nat) (ad : List Int) (pu : List Bool) (pj : List Value) (NS NA : List Ent) (hq1 : ad.length = st.length) (hq2 : pu.length = st.length) (h8 : st.length ≤ 8) (had : ∀ x ∈ ad, rightP x) (sx : Own 3 1 sa st.length sc (st.map I64) NS) (hm : Pm 3 4 (⟨tb, num, ad, un, pu⟩ : Bo) aa ac NA (some ⟨q, 0, none⟩) pc [⟨q, .cells (pu.map Value.bool ++ pj).toArray 4 (0, 0)⟩]) (he : backE ⟨st, nm, some ⟨tb, num, ad, un, pu⟩⟩ now (i : Int) = 0) (hi : i < ad.length) (hz : ¬ (laidL ad (pu.set i false)).sum = 0) : Turns Try.prog 28 ([.pointer (some ⟨b, 0, none⟩), I64 now, I64 (i : Int)]).toArray (fun _ => True) ((bk1 154 157 b sa st.length sc nm p (⟨tb, num, ad, un, pu⟩ : Bo) aa ac (some ⟨q, 0, none⟩) pc NS NA [⟨q, .cells (pu.map Value.bool ++ pj).toArray 4 (0, 0)⟩])) (fun s : List Ent => BK 154 157 3 4 b ⟨st, nm, some ⟨tb, num, ad, un, (pu.set i false)⟩⟩ s) (fun _ => .tuple #[I64 ad[i], I64 0]) (fun s => s) := by
  have hip : i < pu.length := by omega
  refine spec_walk (n := 57) Try.func28 rfl rfl rfl (fun w0 hpre => ?_)
  refine gc_seq ?_
  refine gc_region ?_
  refine gl_cons (gs_box rfl rfl rfl rfl (fun b3 => ?_))
  refine gl_cons (gs_box rfl rfl rfl rfl (fun b4 => ?_))
  refine gl_cons (gs_box rfl rfl rfl rfl (fun b5 => ?_))
  refine gl_cons (gs_val (val_assign rfl) rfl rfl rfl ?_)
  refine gl_cons (gs_val (val_assign rfl) rfl rfl rfl ?_)
  refine gl_nil ?_
  refine gk_seq ?_
  refine gc_seq ?_
  refine gc_seq ?_
  refine gc_region ?_
  refine gl_cons (gs_val (val_load1 kag24 rfl (sees_mem (by repeat (first | exact .head _ | refine .tail _ ?_ | refine List.mem_append_right _ ?_))) rfl) rfl rfl rfl ?_)
  refine gl_cons (gs_val (val_eqlNil kun24 rfl rfl) rfl rfl rfl ?_)
  refine gl_nil ?_
  refine gk_seq ?_
  refine gc_false rfl ?_
  refine gc_skip ?_
  refine gk_seq ?_
  refine gc_seq ?_
  refine gc_region ?_
  refine gl_cons (gs_val (val_load1 kag24 rfl (sees_mem (by repeat (first | exact .head _ | refine .tail _ ?_ | refine List.mem_append_right _ ?_))) rfl) rfl rfl rfl ?_)
  refine gl_cons (gs_val (val_load1 kag3 rfl (sees_mem (by repeat (first | exact .head _ | refine .tail _ ?_ | refine List.mem_append_right _ ?_))) rfl) rfl rfl rfl ?_)
  refine gl_cons (gs_val (val_load1 kag3 rfl (sees_mem (by repeat (first | exact .head _ | refine .tail _ ?_ | refine List.mem_append_right _ ?_))) rfl) rfl rfl rfl ?_)
  refine gl_cons (gs_makes (enters kcall99 (.cons rfl (.cons rfl (.cons rfl .nil)))) (asked_spec b now (i : Int)) rfl rfl rfl (fun _ _ => trivial) (fun ⟨rb, c5, c4, c3⟩ _ => ?_))
  refine gx_perm (.refl (_ :: _ :: _ :: _ :: _)) ?_
  refine gl_cons (gs_val (val_makeFunc .nil (.cons rfl (.cons rfl .nil))) rfl rfl rfl ?_)
  refine gl_cons (gs_val (val_buildStr kze148 kpl148 (.cons rfl (.cons rfl .nil)) rfl (.cons rfl rfl rfl (by simp) (by first | ((with_reducible refine splice_all _ _ ?_); simp; done) | (simp only [splice, stL, digL, List.take_succ_cons, List.take_zero, List.drop_succ_cons, List.drop_zero, List.length_cons, List.length_nil, Nat.reduceAdd, Nat.reduceMul, Nat.zero_add, Nat.zero_mul, List.cons_append, List.nil_append]; exact rfl)) (.cons rfl rfl rfl (by simp) (by first | ((with_reducible refine splice_all _ _ ?_); simp; done) | (simp only [splice, stL, digL, List.take_succ_cons, List.take_zero, List.drop_succ_cons, List.drop_zero, List.length_cons, List.length_nil, Nat.reduceAdd, Nat.reduceMul, Nat.zero_add, Nat.zero_mul, List.cons_append, List.nil_append]; exact rfl)) .nil))) rfl rfl rfl ?_)
  refine gl_cons (gs_val (val_makeFunc .nil (.cons rfl (.cons rfl .nil))) rfl rfl rfl ?_)
  refine gl_cons (gs_val (val_buildStr kze148 kpl148 (.cons rfl (.cons rfl .nil)) rfl (.cons rfl rfl rfl (by simp) (by first | ((with_reducible refine splice_all _ _ ?_); simp; done) | (simp only [splice, stL, digL, List.take_succ_cons, List.take_zero, List.drop_succ_cons, List.drop_zero, List.length_cons, List.length_nil, Nat.reduceAdd, Nat.reduceMul, Nat.zero_add, Nat.zero_mul, List.cons_append, List.nil_append]; exact rfl)) (.cons rfl rfl rfl (by simp) (by first | ((with_reducible refine splice_all _ _ ?_); simp; done) | (simp only [splice, stL, digL, List.take_succ_cons, List.take_zero, List.drop_succ_cons, List.drop_zero, List.length_cons, List.length_nil, Nat.reduceAdd, Nat.reduceMul, Nat.zero_add, Nat.zero_mul, List.cons_append, List.nil_append]; exact rfl)) .nil))) rfl rfl rfl ?_)
  refine gl_cons (gs_buildSlice (zs := [.nilFunc, .int .i64 0, .nilFunc, .int .i64 0]) ksl158 kze148 rfl rfl (.cons rfl (.cons rfl .nil)) (.cons rfl rfl rfl (by simp) (by first | ((with_reducible refine splice_all _ _ ?_); simp; done) | (simp only [splice, stL, digL, List.take_succ_cons, List.take_zero, List.drop_succ_cons, List.drop_zero, List.length_cons, List.length_nil, Nat.reduceAdd, Nat.reduceMul, Nat.zero_add, Nat.zero_mul, List.cons_append, List.nil_append]; exact rfl)) (.cons rfl rfl rfl (by simp) (by first | ((with_reducible refine splice_all _ _ ?_); simp; done) | (simp only [splice, stL, digL, List.take_succ_cons, List.take_zero, List.drop_succ_cons, List.drop_zero, List.length_cons, List.length_nil, Nat.reduceAdd, Nat.reduceMul, Nat.zero_add, Nat.zero_mul, List.cons_append, List.nil_append]; exact rfl)) .nil)) rfl rfl (fun b20 => ?_))
  refine gl_cons (gs_append ksl158 kze148 rfl rfl rfl rfl rfl rfl (own_lit (e := 148) (size := 2) (n := 3) (b := rb) (xs := (([⟨149, [.pointer (some ⟨c3, 0, none⟩)], 9⟩, ⟨150, [.pointer (some ⟨c5, 0, none⟩), .pointer (some ⟨c3, 0, none⟩)], 28⟩, ⟨151, [.pointer (some ⟨c4, 0, none⟩)], 2⟩] : List Ru).flatMap Ru.L)) rfl) (fun _ => .tail (ReplT.app (N := [_]))) (brings_slice ksl158 (sees_all (by repeat (first | exact .head _ | refine .tail _ ?_ | refine List.mem_append_right _ ?_))) rfl (fun v hv => List.all_eq_true.1 rfl v hv)) (by decide) (fun ba21 c21 N21 hown21 => ?_))
  refine gl_cons (gs_pure (enters kcall79 (.cons rfl .nil)) (first_spec ba21 5 c21 [⟨149, [.pointer (some ⟨c3, 0, none⟩)], 9⟩, ⟨150, [.pointer (some ⟨c5, 0, none⟩), .pointer (some ⟨c3, 0, none⟩)], 28⟩, ⟨151, [.pointer (some ⟨c4, 0, none⟩)], 2⟩, ⟨104, [.pointer (some ⟨b3, 0, none⟩), .pointer (some ⟨b4, 0, none⟩)], 20⟩, ⟨105, [.pointer (some ⟨b3, 0, none⟩), .pointer (some ⟨b5, 0, none⟩)], 21⟩] (backE ⟨st, nm, some ⟨tb, num, ad, un, pu⟩⟩ now (i : Int)) (fun w => Row w [] (some ⟨c3, 0, none⟩) [.pointer (some ⟨b, 0, none⟩)] ∧ Row w [] (some ⟨c4, 0, none⟩) [I64 now] ∧ Row w [] (some ⟨c5, 0, none⟩) [I64 (i : Int)] ∧ Row w [] (some ⟨b3, 0, none⟩) [.pointer (some ⟨b, 0, none⟩)] ∧ Row w [] (some ⟨b4, 0, none⟩) [I64 now] ∧ Row w [] (some ⟨b5, 0, none⟩) [I64 (i : Int)] ∧ Row w [] (some ⟨b, 0, none⟩) (bkL (.slice sa st.length sc) nm (.pointer (some ⟨p, 0, none⟩))) ∧ Row w [] (some ⟨p, 0, none⟩) (pdL tb num (.slice aa ad.length ac) un (.slice (some ⟨q, 0, none⟩) pu.length pc)) ∧ Row w [] aa (ad.map I64) ∧ Row w [] (some ⟨q, 0, none⟩) (pu.map Value.bool)) (stable_and stable_row (stable_and stable_row (stable_and stable_row (stable_and stable_row (stable_and stable_row (stable_and stable_row (stable_and stable_row (stable_and stable_row (stable_and stable_row stable_row))))))))) (AllR.ok kcall149 (pure_pre (asked1_some c3 p b sa st.length sc nm) (fun w h => ⟨h.1, h.2.2.2.2.2.2.1⟩)) (AllR.if' kcall150 (pure_pre (asked2_spec c5 c3 (i : Int) (.pointer (some ⟨p, 0, none⟩)) b sa st.length sc nm) (fun w h => ⟨h.2.2.1, h.1, h.2.2.2.2.2.2.1⟩)) (fun g2 => AllR.if' kcall151 (pure_pre (asked3_spec c4 now) (fun w h => h.2.1)) (fun g3 => AllR.if' kcall104 (pure_pre (back1_spec b3 b4 now b sa st.length sc nm p tb num un aa (some ⟨q, 0, none⟩) ad.length ac pu.length pc ad pu rfl rfl) (fun w h => ⟨h.2.2.2.1, h.2.2.2.2.1, h.2.2.2.2.2.2.1, h.2.2.2.2.2.2.2.1⟩)) (fun g4 => AllR.if' kcall105 (pure_pre (back2_spec b3 b5 (i : Int) b sa st.length sc nm p tb num un aa (some ⟨q, 0, none⟩) ad.length ac pu.length pc ad pu rfl rfl (by have e1 : 0 ≤ (i : Int) ∧ (i : Int) < (st.length : Int) := of_decide_eq_true g2; omega) (by omega) (by omega)) (fun w h => ⟨h.2.2.2.1, h.2.2.2.2.2.1, h.2.2.2.2.2.2.1, h.2.2.2.2.2.2.2.1, h.2.2.2.2.2.2.2.2.1, h.2.2.2.2.2.2.2.2.2⟩)) (fun g5 => .nil)))))) rfl (by decide)) rfl rfl rfl (fun w hi => ⟨row_of_sees (hown21.look (by repeat (first | exact .here | exact .headR | exact .app | refine .tail ?_ | refine .appr ?_))) w hi, (row_of_sees (sees_all (by repeat (first | exact .head _ | refine .tail _ ?_ | refine List.mem_append_right _ ?_)))) w hi, (row_of_sees (sees_all (by repeat (first | exact .head _ | refine .tail _ ?_ | refine List.mem_append_right _ ?_)))) w hi, (row_of_sees (sees_all (by repeat (first | exact .head _ | refine .tail _ ?_ | refine List.mem_append_right _ ?_)))) w hi, (row_of_sees (sees_all (by repeat (first | exact .head _ | refine .tail _ ?_ | refine List.mem_append_right _ ?_)))) w hi, (row_of_sees (sees_all (by repeat (first | exact .head _ | refine .tail _ ?_ | refine List.mem_append_right _ ?_)))) w hi, (row_of_sees (sees_all (by repeat (first | exact .head _ | refine .tail _ ?_ | refine List.mem_append_right _ ?_)))) w hi, (row_of_sees (sees_all (by repeat (first | exact .head _ | refine .tail _ ?_ | refine List.mem_append_right _ ?_)))) w hi, (row_of_sees (sees_all (by repeat (first | exact .head _ | refine .tail _ ?_ | refine List.mem_append_right _ ?_)))) w hi, (row_of_sees (hm.ad.look (by repeat (first | exact .here | exact .headR | exact .app | refine .tail ?_ | refine .appr ?_)))) w hi, (row_of_sees (hm.pu.look (by repeat (first | exact .here | exact .headR | exact .app | refine .tail ?_ | refine .appr ?_)))) w hi⟩) ?_)
  refine gl_cons (gs_val (val_assign rfl) rfl rfl rfl ?_)
  refine gl_nil ?_
  refine gk_seq ?_
  refine gc_seq ?_
  refine gc_seq ?_
  refine gc_region ?_
  refine gl_cons (gs_val (val_move rfl) rfl rfl rfl ?_)
  refine gl_cons (gs_val (val_no (val_neq rfl rfl) (not_not_intro he)) rfl rfl rfl ?_)
  refine gx_ps3 (F := fun R => ⟨b3, .cells ([.pointer (some ⟨b, 0, none⟩)] : List Value).toArray 24 (0, 0)⟩ :: ⟨b5, .cells ([I64 (i : Int)] : List Value).toArray 3 (0, 0)⟩ :: bkE 154 b (.slice sa st.length sc) nm (.pointer (some ⟨p, 0, none⟩)) :: pdE 157 p tb num (.slice aa ad.length ac) un (.slice (some ⟨q, 0, none⟩) pu.length pc) :: ⟨q, .cells (pu.map Value.bool ++ pj).toArray 4 (0, 0)⟩ :: (NA ++ (NS ++ R))) ?_ (fun R => .cons_cons _ (.cons_cons _ (.cons_cons _ (.cons_cons _ (.cons_cons _ (List.Sublist.append_left (List.sublist_append_left NS R) NA)))))) ?_
  · dsimp only
    apply Exists.intro
    refine perm_takeX (by repeat (first | exact .cons .head .nil | apply TakeL.tail | apply TakeL.appr)) ?_
    refine perm_takeX (by repeat (first | exact .cons .head .nil | apply TakeL.tail | apply TakeL.appr)) ?_
    refine perm_takeX (by repeat (first | exact .cons .head .nil | apply TakeL.tail | apply TakeL.appr)) ?_
    refine perm_takeX (by repeat (first | exact .cons .head .nil | apply TakeL.tail | apply TakeL.appr)) ?_
    refine perm_takeX (by repeat (first | exact .cons .head .nil | apply TakeL.tail | apply TakeL.appr)) ?_
    refine perm_takeL (by repeat (first | exact .app | exact .here | apply TakeL.tail | apply TakeL.appr)) ?_
    apply perm_takeL
    · repeat (first | exact .app | exact .here | apply TakeL.tail | apply TakeL.appr)
    · exact .refl _
  refine gl_nil ?_
  refine gk_seq ?_
  refine gc_false rfl ?_
  refine gc_skip ?_
  refine gk_seq ?_
  refine gc_seq ?_
  refine gc_drawAll kmixed (by kernel_rfl) ?_
  refine gq_val (val_load1 kag24 rfl (sees_mem (by repeat (first | exact .head _ | refine .tail _ ?_ | refine List.mem_append_right _ ?_))) rfl) rfl rfl rfl ?_
  refine gq_val (val_nilCheck rfl) rfl rfl rfl ?_
  refine gq_val (val_fieldAddr kfo154_2 rfl) rfl rfl rfl ?_
  refine gq_val (val_load1 kag152 rfl (sees_mem (by repeat (first | exact .head _ | refine .tail _ ?_ | refine List.mem_append_right _ ?_))) rfl) rfl rfl rfl ?_
  refine gq_val (val_nilCheck rfl) rfl rfl rfl ?_
  refine gq_val (val_fieldAddr kfo157_0 rfl) rfl rfl rfl ?_
  refine gq_val (val_fieldAddr kfo33_2 rfl) rfl rfl rfl ?_
  refine gq_val (val_load1 kag22 rfl (sees_mem (by repeat (first | exact .head _ | refine .tail _ ?_ | refine List.mem_append_right _ ?_))) rfl) rfl rfl rfl ?_
  refine gq_val (val_load1 kag3 rfl (sees_mem (by repeat (first | exact .head _ | refine .tail _ ?_ | refine List.mem_append_right _ ?_))) rfl) rfl rfl rfl ?_
  refine gq_val (val_indexSli (m := i) ksl22 rfl rfl (by omega) (by omega) (hm.ad.look (by repeat (first | exact .here | exact .headR | exact .app | refine .tail ?_ | refine .appr ?_))) (by (try simp only [List.length_map, Nat.mul_one, dig_len, inc_len, List.length_append, List.length_cons, List.length_nil, List.length_replicate]); omega)) rfl rfl rfl ?_
  refine gq_val (val_cast (v := I64 ad[i]) (val_load1 kag3 rfl ((hm.ad.look (by repeat (first | exact .here | exact .headR | exact .app | refine .tail ?_ | refine .appr ?_))).elem hi) rfl) rfl) rfl rfl rfl ?_
  refine gq_val (val_assign rfl) rfl rfl rfl ?_
  refine gq_nil ?_
  refine gl_nil ?_
  refine gk_seq ?_
  refine gc_seq ?_
  refine gc_draw (m := 9) kmixed (by kernel_rfl) ?_
  refine gq_val (val_load1 kag24 rfl (sees_mem (by repeat (first | exact .head _ | refine .tail _ ?_ | refine List.mem_append_right _ ?_))) rfl) rfl rfl rfl ?_
  refine gq_val (val_nilCheck rfl) rfl rfl rfl ?_
  refine gq_val (val_fieldAddr kfo154_2 rfl) rfl rfl rfl ?_
  refine gq_val (val_load1 kag152 rfl (sees_mem (by repeat (first | exact .head _ | refine .tail _ ?_ | refine List.mem_append_right _ ?_))) rfl) rfl rfl rfl ?_
  refine gq_val (val_nilCheck rfl) rfl rfl rfl ?_
  refine gq_val (val_fieldAddr kfo157_1 rfl) rfl rfl rfl ?_
  refine gq_val (val_load1 kag55 rfl (sees_mem (by repeat (first | exact .head _ | refine .tail _ ?_ | refine List.mem_append_right _ ?_))) rfl) rfl rfl rfl ?_
  refine gq_val (val_load1 kag3 rfl (sees_mem (by repeat (first | exact .head _ | refine .tail _ ?_ | refine List.mem_append_right _ ?_))) rfl) rfl rfl rfl ?_
  refine gq_val (val_cast (v := .pointer (some ⟨q, 0 + i * 1, none⟩)) (val_indexSli (m := i) ksl55 rfl rfl rfl hip (sees_all (by repeat (first | exact .head _ | refine .tail _ ?_ | refine List.mem_append_right _ ?_))) (by rw [List.length_append, List.length_map]; omega)) (idx_eq rfl)) rfl rfl rfl ?_
  refine gq_nil ?_
  refine gl_cons (gs_store ksz4 rfl rfl rfl rfl rfl rfl (by first | exact .head | exact .tail .head | exact .tail (.tail .head) | exact .tail (.tail (.tail .head)) | exact .tail (.tail (.tail (.tail .head))) | exact .tail (.tail (.tail (.tail (.tail .head))))) (by rw [List.length_append, List.length_map]; show 0 + i * 1 + 1 ≤ _; omega) (set_spBJ pu pj i false hip) ?_)
  refine gl_nil ?_
  refine gk_seq ?_
  refine gc_seq ?_
  refine gc_seq ?_
  refine gc_region ?_
  refine gl_cons (gs_val (val_load1 kag24 rfl (sees_mem (by repeat (first | exact .head _ | refine .tail _ ?_ | refine List.mem_append_right _ ?_))) rfl) rfl rfl rfl ?_)
  refine gl_cons (gs_val (val_nilCheck rfl) rfl rfl rfl ?_)
  refine gl_cons (gs_val (val_fieldAddr kfo154_2 rfl) rfl rfl rfl ?_)
  refine gl_cons (gs_val (val_load1 kag152 rfl (sees_mem (by repeat (first | exact .head _ | refine .tail _ ?_ | refine List.mem_append_right _ ?_))) rfl) rfl rfl rfl ?_)
  refine gl_cons (gs_makes (enters kcall88 (.cons rfl .nil)) (laid_spec p tb num un aa (some ⟨q, 0, none⟩) ad.length ac pu.length pc ad (pu.set i false) rfl (List.length_set ..) (by omega) (by omega)) rfl rfl rfl (fun w hi => ⟨(row_of_sees (sees_all (by repeat (first | exact .head _ | refine .tail _ ?_ | refine List.mem_append_right _ ?_)))) w hi, row_of_sees (hm.ad.look (by repeat (first | exact .here | exact .headR | exact .app | refine .tail ?_ | refine .appr ?_))) w hi, row_of_sees ((has_cells (b := q) (cs := (pu.set i false).map Value.bool) (junk := pj) (e := 4)).sees (fun w hi => hi.sub (sub_one_head (by repeat (first | exact .head _ | refine .tail _ ?_ | refine List.mem_append_right _ ?_))))) w hi⟩) (fun lb _ => ?_))
  refine gx_perm (.refl (_ :: _)) ?_
  refine gl_cons (gs_pure (enters kcall85 (.cons rfl .nil)) (sum_spec (some ⟨lb, 0, none⟩) ad.length ad.length (laidL ad (pu.set i false)) (laid_len (by rw [List.length_set]; omega)) (by omega) (laid_right had)) rfl rfl rfl (row_of_sees (sees_all (by repeat (first | exact .head _ | refine .tail _ ?_ | refine List.mem_append_right _ ?_)))) ?_)
  refine gl_cons (gs_val (val_no (val_eql rfl rfl) hz) rfl rfl rfl ?_)
  refine gl_nil ?_
  refine gk_seq ?_
  refine gc_false rfl ?_
  refine gc_skip ?_
  refine gk_seq ?_
  refine gc_seq ?_
  refine gc_region ?_
  refine gl_cons (gs_val (val_move rfl) rfl rfl rfl ?_)
  refine gl_cons (gs_val (val_assign rfl) rfl rfl rfl ?_)
  refine gl_cons (gs_val (val_assign rfl) rfl rfl rfl ?_)
  refine gl_nil ?_
  refine gk_seq ?_
  refine gc_ret ?_
  refine gk_perm (M := (bkE 154 b (.slice sa st.length sc) nm (.pointer (some ⟨p, 0, none⟩)) :: pdE 157 p tb num (.slice aa ad.length ac) un (.slice (some ⟨q, 0, none⟩) pu.length pc) :: (NS ++ (NA ++ [⟨q, .cells ((pu.set i false).map Value.bool ++ pj).toArray 4 (0, 0)⟩]))) ++ [⟨lb, .cells ((laidL ad (pu.set i false)).map I64).toArray 3 (0, 0)⟩, ⟨b3, .cells ([.pointer (some ⟨b, 0, none⟩)] : List Value).toArray 24 (0, 0)⟩, ⟨b5, .cells ([I64 (i : Int)] : List Value).toArray 3 (0, 0)⟩]) (back_perm _ _ _ _ _ _ _ _) ?_
  refine gk_ret rfl (resv_tmp rfl (resv_tmp rfl .nil)) (M := (bkE 154 b (.slice sa st.length sc) nm (.pointer (some ⟨p, 0, none⟩)) :: pdE 157 p tb num (.slice aa ad.length ac) un (.slice (some ⟨q, 0, none⟩) pu.length pc) :: (NS ++ (NA ++ [⟨q, .cells ((pu.set i false).map Value.bool ++ pj).toArray 4 (0, 0)⟩])))) (List.sublist_append_left _ _) ?_
  exact ⟨_, bk_put sx hm (List.length_set ..), rfl, rfl⟩

set_option maxRecDepth 8000 in
set_option maxHeartbeats 1000000 in
/-- (*baize/topup.Bank).Back -/
theorem back_zero (b : Nat) (sa : Option Addr) (sc : Nat) (nm : Int) (st : List Int) (now : Int) (i : Nat) (p : Nat) (tb : BitVec 64) (num un : Int) (aa : Option Addr) (ac pc q : Nat) (ad : List Int) (pu : List Bool) (pj : List Value) (NS NA : List Ent) (hq1 : ad.length = st.length) (hq2 : pu.length = st.length) (h8 : st.length ≤ 8) (had : ∀ x ∈ ad, rightP x) (sx : Own 3 1 sa st.length sc (st.map I64) NS) (hm : Pm 3 4 (⟨tb, num, ad, un, pu⟩ : Bo) aa ac NA (some ⟨q, 0, none⟩) pc [⟨q, .cells (pu.map Value.bool ++ pj).toArray 4 (0, 0)⟩]) (he : backE ⟨st, nm, some ⟨tb, num, ad, un, pu⟩⟩ now (i : Int) = 0) (hi : i < ad.length) (hz : (laidL ad (pu.set i false)).sum = 0) : Turns Try.prog 28 ([.pointer (some ⟨b, 0, none⟩), I64 now, I64 (i : Int)]).toArray (fun _ => True) ((bk1 154 157 b sa st.length sc nm p (⟨tb, num, ad, un, pu⟩ : Bo) aa ac (some ⟨q, 0, none⟩) pc NS NA [⟨q, .cells (pu.map Value.bool ++ pj).toArray 4 (0, 0)⟩])) (fun s : List Ent => BK 154 157 3 4 b ⟨st, nm, none⟩ s) (fun _ => .tuple #[I64 ad[i], I64 0]) (fun s => s) := by
  have hip : i < pu.length := by omega
  refine spec_walk (n := 57) Try.func28 rfl rfl rfl (fun w0 hpre => ?_)
  refine gc_seq ?_
  refine gc_region ?_
  refine gl_cons (gs_box rfl rfl rfl rfl (fun b3 => ?_))
  refine gl_cons (gs_box rfl rfl rfl rfl (fun b4 => ?_))
  refine gl_cons (gs_box rfl rfl rfl rfl (fun b5 => ?_))
  refine gl_cons (gs_val (val_assign rfl) rfl rfl rfl ?_)
  refine gl_cons (gs_val (val_assign rfl) rfl rfl rfl ?_)
  refine gl_nil ?_
  refine gk_seq ?_
  refine gc_seq ?_
  refine gc_seq ?_
  refine gc_region ?_
  refine gl_cons (gs_val (val_load1 kag24 rfl (sees_mem (by repeat (first | exact .head _ | refine .tail _ ?_ | refine List.mem_append_right _ ?_))) rfl) rfl rfl rfl ?_)
  refine gl_cons (gs_val (val_eqlNil kun24 rfl rfl) rfl rfl rfl ?_)
  refine gl_nil ?_
  refine gk_seq ?_
  refine gc_false rfl ?_
  refine gc_skip ?_
  refine gk_seq ?_
  refine gc_seq ?_
  refine gc_region ?_
  refine gl_cons (gs_val (val_load1 kag24 rfl (sees_mem (by repeat (first | exact .head _ | refine .tail _ ?_ | refine List.mem_append_right _ ?_))) rfl) rfl rfl rfl ?_)
  refine gl_cons (gs_val (val_load1 kag3 rfl (sees_mem (by repeat (first | exact .head _ | refine .tail _ ?_ | refine List.mem_append_right _ ?_))) rfl) rfl rfl rfl ?_)
  refine gl_cons (gs_val (val_load1 kag3 rfl (sees_mem (by repeat (first | exact .head _ | refine .tail _ ?_ | refine List.mem_append_right _ ?_))) rfl) rfl rfl rfl ?_)
  refine gl_cons (gs_makes (enters kcall99 (.cons rfl (.cons rfl (.cons rfl .nil)))) (asked_spec b now (i : Int)) rfl rfl rfl (fun _ _ => trivial) (fun ⟨rb, c5, c4, c3⟩ _ => ?_))
  refine gx_perm (.refl (_ :: _ :: _ :: _ :: _)) ?_
  refine gl_cons (gs_val (val_makeFunc .nil (.cons rfl (.cons rfl .nil))) rfl rfl rfl ?_)
  refine gl_cons (gs_val (val_buildStr kze148 kpl148 (.cons rfl (.cons rfl .nil)) rfl (.cons rfl rfl rfl (by simp) (by first | ((with_reducible refine splice_all _ _ ?_); simp; done) | (simp only [splice, stL, digL, List.take_succ_cons, List.take_zero, List.drop_succ_cons, List.drop_zero, List.length_cons, List.length_nil, Nat.reduceAdd, Nat.reduceMul, Nat.zero_add, Nat.zero_mul, List.cons_append, List.nil_append]; exact rfl)) (.cons rfl rfl rfl (by simp) (by first | ((with_reducible refine splice_all _ _ ?_); simp; done) | (simp only [splice, stL, digL, List.take_succ_cons, List.take_zero, List.drop_succ_cons, List.drop_zero, List.length_cons, List.length_nil, Nat.reduceAdd, Nat.reduceMul, Nat.zero_add, Nat.zero_mul, List.cons_append, List.nil_append]; exact rfl)) .nil))) rfl rfl rfl ?_)
  refine gl_cons (gs_val (val_makeFunc .nil (.cons rfl (.cons rfl .nil))) rfl rfl rfl ?_)
  refine gl_cons (gs_val (val_buildStr kze148 kpl148 (.cons rfl (.cons rfl .nil)) rfl (.cons rfl rfl rfl (by simp) (by first | ((with_reducible refine splice_all _ _ ?_); simp; done) | (simp only [splice, stL, digL, List.take_succ_cons, List.take_zero, List.drop_succ_cons, List.drop_zero, List.length_cons, List.length_nil, Nat.reduceAdd, Nat.reduceMul, Nat.zero_add, Nat.zero_mul, List.cons_append, List.nil_append]; exact rfl)) (.cons rfl rfl rfl (by simp) (by first | ((with_reducible refine splice_all _ _ ?_); simp; done) | (simp only [splice, stL, digL, List.take_succ_cons, List.take_zero, List.drop_succ_cons, List.drop_zero, List.length_cons, List.length_nil, Nat.reduceAdd, Nat.reduceMul, Nat.zero_add, Nat.zero_mul, List.cons_append, List.nil_append]; exact rfl)) .nil))) rfl rfl rfl ?_)
  refine gl_cons (gs_buildSlice (zs := [.nilFunc, .int .i64 0, .nilFunc, .int .i64 0]) ksl158 kze148 rfl rfl (.cons rfl (.cons rfl .nil)) (.cons rfl rfl rfl (by simp) (by first | ((with_reducible refine splice_all _ _ ?_); simp; done) | (simp only [splice, stL, digL, List.take_succ_cons, List.take_zero, List.drop_succ_cons, List.drop_zero, List.length_cons, List.length_nil, Nat.reduceAdd, Nat.reduceMul, Nat.zero_add, Nat.zero_mul, List.cons_append, List.nil_append]; exact rfl)) (.cons rfl rfl rfl (by simp) (by first | ((with_reducible refine splice_all _ _ ?_); simp; done) | (simp only [splice, stL, digL, List.take_succ_cons, List.take_zero, List.drop_succ_cons, List.drop_zero, List.length_cons, List.length_nil, Nat.reduceAdd, Nat.reduceMul, Nat.zero_add, Nat.zero_mul, List.cons_append, List.nil_append]; exact rfl)) .nil)) rfl rfl (fun b20 => ?_))
  refine gl_cons (gs_append ksl158 kze148 rfl rfl rfl rfl rfl rfl (own_lit (e := 148) (size := 2) (n := 3) (b := rb) (xs := (([⟨149, [.pointer (some ⟨c3, 0, none⟩)], 9⟩, ⟨150, [.pointer (some ⟨c5, 0, none⟩), .pointer (some ⟨c3, 0, none⟩)], 28⟩, ⟨151, [.pointer (some ⟨c4, 0, none⟩)], 2⟩] : List Ru).flatMap Ru.L)) rfl) (fun _ => .tail (ReplT.app (N := [_]))) (brings_slice ksl158 (sees_all (by repeat (first | exact .head _ | refine .tail _ ?_ | refine List.mem_append_right _ ?_))) rfl (fun v hv => List.all_eq_true.1 rfl v hv)) (by decide) (fun ba21 c21 N21 hown21 => ?_))
  refine gl_cons (gs_pure (enters kcall79 (.cons rfl .nil)) (first_spec ba21 5 c21 [⟨149, [.pointer (some ⟨c3, 0, none⟩)], 9⟩, ⟨150, [.pointer (some ⟨c5, 0, none⟩), .pointer (some ⟨c3, 0, none⟩)], 28⟩, ⟨151, [.pointer (some ⟨c4, 0, none⟩)], 2⟩, ⟨104, [.pointer (some ⟨b3, 0, none⟩), .pointer (some ⟨b4, 0, none⟩)], 20⟩, ⟨105, [.pointer (some ⟨b3, 0, none⟩), .pointer (some ⟨b5, 0, none⟩)], 21⟩] (backE ⟨st, nm, some ⟨tb, num, ad, un, pu⟩⟩ now (i : Int)) (fun w => Row w [] (some ⟨c3, 0, none⟩) [.pointer (some ⟨b, 0, none⟩)] ∧ Row w [] (some ⟨c4, 0, none⟩) [I64 now] ∧ Row w [] (some ⟨c5, 0, none⟩) [I64 (i : Int)] ∧ Row w [] (some ⟨b3, 0, none⟩) [.pointer (some ⟨b, 0, none⟩)] ∧ Row w [] (some ⟨b4, 0, none⟩) [I64 now] ∧ Row w [] (some ⟨b5, 0, none⟩) [I64 (i : Int)] ∧ Row w [] (some ⟨b, 0, none⟩) (bkL (.slice sa st.length sc) nm (.pointer (some ⟨p, 0, none⟩))) ∧ Row w [] (some ⟨p, 0, none⟩) (pdL tb num (.slice aa ad.length ac) un (.slice (some ⟨q, 0, none⟩) pu.length pc)) ∧ Row w [] aa (ad.map I64) ∧ Row w [] (some ⟨q, 0, none⟩) (pu.map Value.bool)) (stable_and stable_row (stable_and stable_row (stable_and stable_row (stable_and stable_row (stable_and stable_row (stable_and stable_row (stable_and stable_row (stable_and stable_row (stable_and stable_row stable_row))))))))) (AllR.ok kcall149 (pure_pre (asked1_some c3 p b sa st.length sc nm) (fun w h => ⟨h.1, h.2.2.2.2.2.2.1⟩)) (AllR.if' kcall150 (pure_pre (asked2_spec c5 c3 (i : Int) (.pointer (some ⟨p, 0, none⟩)) b sa st.length sc nm) (fun w h => ⟨h.2.2.1, h.1, h.2.2.2.2.2.2.1⟩)) (fun g2 => AllR.if' kcall151 (pure_pre (asked3_spec c4 now) (fun w h => h.2.1)) (fun g3 => AllR.if' kcall104 (pure_pre (back1_spec b3 b4 now b sa st.length sc nm p tb num un aa (some ⟨q, 0, none⟩) ad.length ac pu.length pc ad pu rfl rfl) (fun w h => ⟨h.2.2.2.1, h.2.2.2.2.1, h.2.2.2.2.2.2.1, h.2.2.2.2.2.2.2.1⟩)) (fun g4 => AllR.if' kcall105 (pure_pre (back2_spec b3 b5 (i : Int) b sa st.length sc nm p tb num un aa (some ⟨q, 0, none⟩) ad.length ac pu.length pc ad pu rfl rfl (by have e1 : 0 ≤ (i : Int) ∧ (i : Int) < (st.length : Int) := of_decide_eq_true g2; omega) (by omega) (by omega)) (fun w h => ⟨h.2.2.2.1, h.2.2.2.2.2.1, h.2.2.2.2.2.2.1, h.2.2.2.2.2.2.2.1, h.2.2.2.2.2.2.2.2.1, h.2.2.2.2.2.2.2.2.2⟩)) (fun g5 => .nil)))))) rfl (by decide)) rfl rfl rfl (fun w hi => ⟨row_of_sees (hown21.look (by repeat (first | exact .here | exact .headR | exact .app | refine .tail ?_ | refine .appr ?_))) w hi, (row_of_sees (sees_all (by repeat (first | exact .head _ | refine .tail _ ?_ | refine List.mem_append_right _ ?_)))) w hi, (row_of_sees (sees_all (by repeat (first | exact .head _ | refine .tail _ ?_ | refine List.mem_append_right _ ?_)))) w hi, (row_of_sees (sees_all (by repeat (first | exact .head _ | refine .tail _ ?_ | refine List.mem_append_right _ ?_)))) w hi, (row_of_sees (sees_all (by repeat (first | exact .head _ | refine .tail _ ?_ | refine List.mem_append_right _ ?_)))) w hi, (row_of_sees (sees_all (by repeat (first | exact .head _ | refine .tail _ ?_ | refine List.mem_append_right _ ?_)))) w hi, (row_of_sees (sees_all (by repeat (first | exact .head _ | refine .tail _ ?_ | refine List.mem_append_right _ ?_)))) w hi, (row_of_sees (sees_all (by repeat (first | exact .head _ | refine .tail _ ?_ | refine List.mem_append_right _ ?_)))) w hi, (row_of_sees (sees_all (by repeat (first | exact .head _ | refine .tail _ ?_ | refine List.mem_append_right _ ?_)))) w hi, (row_of_sees (hm.ad.look (by repeat (first | exact .here | exact .headR | exact .app | refine .tail ?_ | refine .appr ?_)))) w hi, (row_of_sees (hm.pu.look (by repeat (first | exact .here | exact .headR | exact .app | refine .tail ?_ | refine .appr ?_)))) w hi⟩) ?_)
  refine gl_cons (gs_val (val_assign rfl) rfl rfl rfl ?_)
  refine gl_nil ?_
  refine gk_seq ?_
  refine gc_seq ?_
  refine gc_seq ?_
  refine gc_region ?_
  refine gl_cons (gs_val (val_move rfl) rfl rfl rfl ?_)
  refine gl_cons (gs_val (val_no (val_neq rfl rfl) (not_not_intro he)) rfl rfl rfl ?_)
  refine gx_ps3 (F := fun R => ⟨b3, .cells ([.pointer (some ⟨b, 0, none⟩)] : List Value).toArray 24 (0, 0)⟩ :: ⟨b5, .cells ([I64 (i : Int)] : List Value).toArray 3 (0, 0)⟩ :: bkE 154 b (.slice sa st.length sc) nm (.pointer (some ⟨p, 0, none⟩)) :: pdE 157 p tb num (.slice aa ad.length ac) un (.slice (some ⟨q, 0, none⟩) pu.length pc) :: ⟨q, .cells (pu.map Value.bool ++ pj).toArray 4 (0, 0)⟩ :: (NA ++ (NS ++ R))) ?_ (fun R => .cons_cons _ (.cons_cons _ (.cons_cons _ (.cons_cons _ (.cons_cons _ (List.Sublist.append_left (List.sublist_append_left NS R) NA)))))) ?_
  · dsimp only
    apply Exists.intro
    refine perm_takeX (by repeat (first | exact .cons .head .nil | apply TakeL.tail | apply TakeL.appr)) ?_
    refine perm_takeX (by repeat (first | exact .cons .head .nil | apply TakeL.tail | apply TakeL.appr)) ?_
    refine perm_takeX (by repeat (first | exact .cons .head .nil | apply TakeL.tail | apply TakeL.appr)) ?_
    refine perm_takeX (by repeat (first | exact .cons .head .nil | apply TakeL.tail | apply TakeL.appr)) ?_
    refine perm_takeX (by repeat (first | exact .cons .head .nil | apply TakeL.tail | apply TakeL.appr)) ?_
    refine perm_takeL (by repeat (first | exact .app | exact .here | apply TakeL.tail | apply TakeL.appr)) ?_
    apply perm_takeL
    · repeat (first | exact .app | exact .here | apply TakeL.tail | apply TakeL.appr)
    · exact .refl _
  refine gl_nil ?_
  refine gk_seq ?_
  refine gc_false rfl ?_
  refine gc_skip ?_
  refine gk_seq ?_
  refine gc_seq ?_
  refine gc_drawAll kmixed (by kernel_rfl) ?_
  refine gq_val (val_load1 kag24 rfl (sees_mem (by repeat (first | exact .head _ | refine .tail _ ?_ | refine List.mem_append_right _ ?_))) rfl) rfl rfl rfl ?_
  refine gq_val (val_nilCheck rfl) rfl rfl rfl ?_
  refine gq_val (val_fieldAddr kfo154_2 rfl) rfl rfl rfl ?_
  refine gq_val (val_load1 kag152 rfl (sees_mem (by repeat (first | exact .head _ | refine .tail _ ?_ | refine List.mem_append_right _ ?_))) rfl) rfl rfl rfl ?_
  refine gq_val (val_nilCheck rfl) rfl rfl rfl ?_
  refine gq_val (val_fieldAddr kfo157_0 rfl) rfl rfl rfl ?_
  refine gq_val (val_fieldAddr kfo33_2 rfl) rfl rfl rfl ?_
  refine gq_val (val_load1 kag22 rfl (sees_mem (by repeat (first | exact .head _ | refine .tail _ ?_ | refine List.mem_append_right _ ?_))) rfl) rfl rfl rfl ?_
  refine gq_val (val_load1 kag3 rfl (sees_mem (by repeat (first | exact .head _ | refine .tail _ ?_ | refine List.mem_append_right _ ?_))) rfl) rfl rfl rfl ?_
  refine gq_val (val_indexSli (m := i) ksl22 rfl rfl (by omega) (by omega) (hm.ad.look (by repeat (first | exact .here | exact .headR | exact .app | refine .tail ?_ | refine .appr ?_))) (by (try simp only [List.length_map, Nat.mul_one, dig_len, inc_len, List.length_append, List.length_cons, List.length_nil, List.length_replicate]); omega)) rfl rfl rfl ?_
  refine gq_val (val_cast (v := I64 ad[i]) (val_load1 kag3 rfl ((hm.ad.look (by repeat (first | exact .here | exact .headR | exact .app | refine .tail ?_ | refine .appr ?_))).elem hi) rfl) rfl) rfl rfl rfl ?_
  refine gq_val (val_assign rfl) rfl rfl rfl ?_
  refine gq_nil ?_
  refine gl_nil ?_
  refine gk_seq ?_
  refine gc_seq ?_
  refine gc_draw (m := 9) kmixed (by kernel_rfl) ?_
  refine gq_val (val_load1 kag24 rfl (sees_mem (by repeat (first | exact .head _ | refine .tail _ ?_ | refine List.mem_append_right _ ?_))) rfl) rfl rfl rfl ?_
  refine gq_val (val_nilCheck rfl) rfl rfl rfl ?_
  refine gq_val (val_fieldAddr kfo154_2 rfl) rfl rfl rfl ?_
  refine gq_val (val_load1 kag152 rfl (sees_mem (by repeat (first | exact .head _ | refine .tail _ ?_ | refine List.mem_append_right _ ?_))) rfl) rfl rfl rfl ?_
  refine gq_val (val_nilCheck rfl) rfl rfl rfl ?_
  refine gq_val (val_fieldAddr kfo157_1 rfl) rfl rfl rfl ?_
  refine gq_val (val_load1 kag55 rfl (sees_mem (by repeat (first | exact .head _ | refine .tail _ ?_ | refine List.mem_append_right _ ?_))) rfl) rfl rfl rfl ?_
  refine gq_val (val_load1 kag3 rfl (sees_mem (by repeat (first | exact .head _ | refine .tail _ ?_ | refine List.mem_append_right _ ?_))) rfl) rfl rfl rfl ?_
  refine gq_val (val_cast (v := .pointer (some ⟨q, 0 + i * 1, none⟩)) (val_indexSli (m := i) ksl55 rfl rfl rfl hip (sees_all (by repeat (first | exact .head _ | refine .tail _ ?_ | refine List.mem_append_right _ ?_))) (by rw [List.length_append, List.length_map]; omega)) (idx_eq rfl)) rfl rfl rfl ?_
  refine gq_nil ?_
  refine gl_cons (gs_store ksz4 rfl rfl rfl rfl rfl rfl (by first | exact .head | exact .tail .head | exact .tail (.tail .head) | exact .tail (.tail (.tail .head)) | exact .tail (.tail (.tail (.tail .head))) | exact .tail (.tail (.tail (.tail (.tail .head))))) (by rw [List.length_append, List.length_map]; show 0 + i * 1 + 1 ≤ _; omega) (set_spBJ pu pj i false hip) ?_)
  refine gl_nil ?_
  refine gk_seq ?_
  refine gc_seq ?_
  refine gc_seq ?_
  refine gc_region ?_
  refine gl_cons (gs_val (val_load1 kag24 rfl (sees_mem (by repeat (first | exact .head _ | refine .tail _ ?_ | refine List.mem_append_right _ ?_))) rfl) rfl rfl rfl ?_)
  refine gl_cons (gs_val (val_nilCheck rfl) rfl rfl rfl ?_)
  refine gl_cons (gs_val (val_fieldAddr kfo154_2 rfl) rfl rfl rfl ?_)
  refine gl_cons (gs_val (val_load1 kag152 rfl (sees_mem (by repeat (first | exact .head _ | refine .tail _ ?_ | refine List.mem_append_right _ ?_))) rfl) rfl rfl rfl ?_)
  refine gl_cons (gs_makes (enters kcall88 (.cons rfl .nil)) (laid_spec p tb num un aa (some ⟨q, 0, none⟩) ad.length ac pu.length pc ad (pu.set i false) rfl (List.length_set ..) (by omega) (by omega)) rfl rfl rfl (fun w hi => ⟨(row_of_sees (sees_all (by repeat (first | exact .head _ | refine .tail _ ?_ | refine List.mem_append_right _ ?_)))) w hi, row_of_sees (hm.ad.look (by repeat (first | exact .here | exact .headR | exact .app | refine .tail ?_ | refine .appr ?_))) w hi, row_of_sees ((has_cells (b := q) (cs := (pu.set i false).map Value.bool) (junk := pj) (e := 4)).sees (fun w hi => hi.sub (sub_one_head (by repeat (first | exact .head _ | refine .tail _ ?_ | refine List.mem_append_right _ ?_))))) w hi⟩) (fun lb _ => ?_))
  refine gx_perm (.refl (_ :: _)) ?_
  refine gl_cons (gs_pure (enters kcall85 (.cons rfl .nil)) (sum_spec (some ⟨lb, 0, none⟩) ad.length ad.length (laidL ad (pu.set i false)) (laid_len (by rw [List.length_set]; omega)) (by omega) (laid_right had)) rfl rfl rfl (row_of_sees (sees_all (by repeat (first | exact .head _ | refine .tail _ ?_ | refine List.mem_append_right _ ?_)))) ?_)
  refine gl_cons (gs_val (val_yes (val_eql rfl rfl) hz) rfl rfl rfl ?_)
  refine gl_nil ?_
  refine gk_seq ?_
  refine gc_true rfl ?_
  refine gc_region ?_
  refine gl_cons (gs_val (val_load1 kag24 rfl (sees_mem (by repeat (first | exact .head _ | refine .tail _ ?_ | refine List.mem_append_right _ ?_))) rfl) rfl rfl rfl ?_)
  refine gl_cons (gs_val (val_nilCheck rfl) rfl rfl rfl ?_)
  refine gl_cons (gs_val (val_fieldAddr kfo154_2 rfl) rfl rfl rfl ?_)
  refine gl_cons (gs_store ksz152 rfl rfl rfl rfl rfl rfl (by first | exact .head | exact .tail .head | exact .tail (.tail .head) | exact .tail (.tail (.tail .head)) | exact .tail (.tail (.tail (.tail .head))) | exact .tail (.tail (.tail (.tail (.tail .head))))) (by simp) (by first | ((with_reducible refine splice_all _ _ ?_); simp; done) | (simp only [splice, stL, digL, List.take_succ_cons, List.take_zero, List.drop_succ_cons, List.drop_zero, List.length_cons, List.length_nil, Nat.reduceAdd, Nat.reduceMul, Nat.zero_add, Nat.zero_mul, List.cons_append, List.nil_append]; exact rfl)) ?_)
  refine gl_nil ?_
  refine gk_seq ?_
  refine gc_seq ?_
  refine gc_region ?_
  refine gl_cons (gs_val (val_move rfl) rfl rfl rfl ?_)
  refine gl_cons (gs_val (val_assign rfl) rfl rfl rfl ?_)
  refine gl_cons (gs_val (val_assign rfl) rfl rfl rfl ?_)
  refine gl_nil ?_
  refine gk_seq ?_
  refine gc_ret ?_
  refine gk_perm (M := (bkE 154 b (.slice sa st.length sc) nm (.pointer none) :: NS) ++ (⟨lb, .cells ((laidL ad (pu.set i false)).map I64).toArray 3 (0, 0)⟩ :: ⟨b3, .cells ([.pointer (some ⟨b, 0, none⟩)] : List Value).toArray 24 (0, 0)⟩ :: ⟨b5, .cells ([I64 (i : Int)] : List Value).toArray 3 (0, 0)⟩ :: pdE 157 p tb num (.slice aa ad.length ac) un (.slice (some ⟨q, 0, none⟩) pu.length pc) :: ⟨q, .cells ((pu.set i false).map Value.bool ++ pj).toArray 4 (0, 0)⟩ :: NA)) (back_perm0 _ _ _ _ _ _ _ _) ?_
  refine gk_ret rfl (resv_tmp rfl (resv_tmp rfl .nil)) (M := (bkE 154 b (.slice sa st.length sc) nm (.pointer none) :: NS)) (List.sublist_append_left _ _) ?_
  exact ⟨_, ⟨sa, sc, NS, sx, rfl⟩, rfl, rfl⟩

end Go.Proofs.Ytddckbhlfeegoaa
