/- The walk of functions of the program: what each computes, for every input. -/
import Derived.Test.YtddckbhlfeegoaaWBFacts
import Derived.Test.YtddckbhlfeegoaaWBtopup6
namespace Go.Proofs.Ytddckbhlfeegoaa
open Go Go.Eng
set_option linter.unusedVariables false
set_option linter.unusedSimpArgs false

theorem containsF_yes (ba : Option Addr) (n c : Nat) (l : List Bool) (hn : l.length = n) (hb : n ≤ 140737488351232) (hf :  false ∈ l) : Pure Try.prog 103 ([.slice ba n c, .bool false]).toArray (fun w => Row w [] ba (l.map Value.bool)) (.bool true) := by
  have := containsF_spec ba n c l hn hb
  rwa [decide_eq_true hf] at this

theorem containsF_no (ba : Option Addr) (n c : Nat) (l : List Bool) (hn : l.length = n) (hb : n ≤ 140737488351232) (hf : ¬ false ∈ l) : Pure Try.prog 103 ([.slice ba n c, .bool false]).toArray (fun w => Row w [] ba (l.map Value.bool)) (.bool false) := by
  have := containsF_spec ba n c l hn hb
  rwa [decide_eq_false hf] at this

set_option maxRecDepth 8000 in
set_option maxHeartbeats 1000000 in
/-- (*baize/topup.Bank).Put -/
theorem put_more (b : Nat) (sc : Nat) (nm : Int) (st : List Int) (now : Int) (i : Nat) (amt : Int) (p : Nat) (tb : BitVec 64) (num un : Int) (aa : Option Addr) (ac pc s0 q : Nat) (ad : List Int) (pu : List Bool) (sj pj : List Value) (NA : List Ent) (hq1 : ad.length = st.length) (hq2 : pu.length = st.length) (h8 : st.length ≤ 8) (hst : ∀ x ∈ st, rightP x) (had : ∀ x ∈ ad, rightP x) (sx : Own 3 1 (some ⟨s0, 0, none⟩) st.length sc (st.map I64) [⟨s0, .cells (st.map I64 ++ sj).toArray 3 (0, 0)⟩]) (hm : Pm 3 4 (⟨tb, num, ad, un, pu⟩ : Bo) aa ac NA (some ⟨q, 0, none⟩) pc [⟨q, .cells (pu.map Value.bool ++ pj).toArray 4 (0, 0)⟩]) (he : putE ⟨st, nm, some ⟨tb, num, ad, un, pu⟩⟩ now (i : Int) amt = 0) (hF : false ∈ (pu.set i true)) : Turns Try.prog 27 ([.pointer (some ⟨b, 0, none⟩), I64 now, I64 (i : Int), I64 amt]).toArray (fun _ => True) ((bk1 154 157 b (some ⟨s0, 0, none⟩) st.length sc nm p (⟨tb, num, ad, un, pu⟩ : Bo) aa ac (some ⟨q, 0, none⟩) pc [⟨s0, .cells (st.map I64 ++ sj).toArray 3 (0, 0)⟩] NA [⟨q, .cells (pu.map Value.bool ++ pj).toArray 4 (0, 0)⟩])) (fun s : List Ent => BK 154 157 3 4 b ⟨st, nm, some ⟨tb, num, ad, un, (pu.set i true)⟩⟩ s) (fun _ => I64 0) (fun s => s) := by
  obtain ⟨hr, hnow, hun, hpf, hamt⟩ := put_ok (o := (⟨tb, num, ad, un, pu⟩ : Bo)) rfl he
  have hr : 0 ≤ (i : Int) ∧ (i : Int) < (st.length : Int) := hr
  have hip : i < pu.length := by omega
  refine spec_walk (n := 75) Try.func27 rfl rfl rfl (fun w0 hpre => ?_)
  refine gc_seq ?_
  refine gc_region ?_
  refine gl_cons (gs_box rfl rfl rfl rfl (fun b4 => ?_))
  refine gl_cons (gs_box rfl rfl rfl rfl (fun b5 => ?_))
  refine gl_cons (gs_box rfl rfl rfl rfl (fun b6 => ?_))
  refine gl_cons (gs_box rfl rfl rfl rfl (fun b7 => ?_))
  refine gl_cons (gs_val (val_assign rfl) rfl rfl rfl ?_)
  refine gl_nil ?_
  refine gk_seq ?_
  refine gc_seq ?_
  refine gc_seq ?_
  refine gc_region ?_
  refine gl_cons (gs_val (val_load1 kag24 rfl (sees_mem (by repeat (first | exact .head _ | refine .tail _ ?_ | refine List.mem_append_right _ ?_))) rfl) rfl rfl rfl ?_)
  refine gl_cons (gs_val (val_eqlNil kun24 rfl rfl) rfl rfl rfl ?_)
  refine gl_nil ?_
  refine gk_seq ?_
  refine gc_false rfl ?_
  refine gc_skip ?_
  refine gk_seq ?_
  refine gc_seq ?_
  refine gc_region ?_
  refine gl_cons (gs_val (val_load1 kag24 rfl (sees_mem (by repeat (first | exact .head _ | refine .tail _ ?_ | refine List.mem_append_right _ ?_))) rfl) rfl rfl rfl ?_)
  refine gl_cons (gs_val (val_load1 kag3 rfl (sees_mem (by repeat (first | exact .head _ | refine .tail _ ?_ | refine List.mem_append_right _ ?_))) rfl) rfl rfl rfl ?_)
  refine gl_cons (gs_val (val_load1 kag3 rfl (sees_mem (by repeat (first | exact .head _ | refine .tail _ ?_ | refine List.mem_append_right _ ?_))) rfl) rfl rfl rfl ?_)
  refine gl_cons (gs_makes (enters kcall99 (.cons rfl (.cons rfl (.cons rfl .nil)))) (asked_spec b now (i : Int)) rfl rfl rfl (fun _ _ => trivial) (fun ⟨rb, c5, c4, c3⟩ _ => ?_))
  refine gx_perm (.refl (_ :: _ :: _ :: _ :: _)) ?_
  refine gl_cons (gs_val (val_makeFunc .nil (.cons rfl (.cons rfl .nil))) rfl rfl rfl ?_)
  refine gl_cons (gs_val (val_buildStr kze148 kpl148 (.cons rfl (.cons rfl .nil)) rfl (.cons rfl rfl rfl (by simp) (by first | ((with_reducible refine splice_all _ _ ?_); simp; done) | (simp only [splice, stL, digL, List.take_succ_cons, List.take_zero, List.drop_succ_cons, List.drop_zero, List.length_cons, List.length_nil, Nat.reduceAdd, Nat.reduceMul, Nat.zero_add, Nat.zero_mul, List.cons_append, List.nil_append]; exact rfl)) (.cons rfl rfl rfl (by simp) (by first | ((with_reducible refine splice_all _ _ ?_); simp; done) | (simp only [splice, stL, digL, List.take_succ_cons, List.take_zero, List.drop_succ_cons, List.drop_zero, List.length_cons, List.length_nil, Nat.reduceAdd, Nat.reduceMul, Nat.zero_add, Nat.zero_mul, List.cons_append, List.nil_append]; exact rfl)) .nil))) rfl rfl rfl ?_)
  refine gl_cons (gs_val (val_makeFunc .nil (.cons rfl (.cons rfl .nil))) rfl rfl rfl ?_)
  refine gl_cons (gs_val (val_buildStr kze148 kpl148 (.cons rfl (.cons rfl .nil)) rfl (.cons rfl rfl rfl (by simp) (by first | ((with_reducible refine splice_all _ _ ?_); simp; done) | (simp only [splice, stL, digL, List.take_succ_cons, List.take_zero, List.drop_succ_cons, List.drop_zero, List.length_cons, List.length_nil, Nat.reduceAdd, Nat.reduceMul, Nat.zero_add, Nat.zero_mul, List.cons_append, List.nil_append]; exact rfl)) (.cons rfl rfl rfl (by simp) (by first | ((with_reducible refine splice_all _ _ ?_); simp; done) | (simp only [splice, stL, digL, List.take_succ_cons, List.take_zero, List.drop_succ_cons, List.drop_zero, List.length_cons, List.length_nil, Nat.reduceAdd, Nat.reduceMul, Nat.zero_add, Nat.zero_mul, List.cons_append, List.nil_append]; exact rfl)) .nil))) rfl rfl rfl ?_)
  refine gl_cons (gs_val (val_makeFunc .nil (.cons rfl (.cons rfl (.cons rfl .nil)))) rfl rfl rfl ?_)
  refine gl_cons (gs_val (val_buildStr kze148 kpl148 (.cons rfl (.cons rfl .nil)) rfl (.cons rfl rfl rfl (by simp) (by first | ((with_reducible refine splice_all _ _ ?_); simp; done) | (simp only [splice, stL, digL, List.take_succ_cons, List.take_zero, List.drop_succ_cons, List.drop_zero, List.length_cons, List.length_nil, Nat.reduceAdd, Nat.reduceMul, Nat.zero_add, Nat.zero_mul, List.cons_append, List.nil_append]; exact rfl)) (.cons rfl rfl rfl (by simp) (by first | ((with_reducible refine splice_all _ _ ?_); simp; done) | (simp only [splice, stL, digL, List.take_succ_cons, List.take_zero, List.drop_succ_cons, List.drop_zero, List.length_cons, List.length_nil, Nat.reduceAdd, Nat.reduceMul, Nat.zero_add, Nat.zero_mul, List.cons_append, List.nil_append]; exact rfl)) .nil))) rfl rfl rfl ?_)
  refine gl_cons (gs_buildSlice (zs := [.nilFunc, .int .i64 0, .nilFunc, .int .i64 0, .nilFunc, .int .i64 0]) ksl158 kze148 rfl rfl (.cons rfl (.cons rfl (.cons rfl .nil))) (.cons rfl rfl rfl (by simp) (by first | ((with_reducible refine splice_all _ _ ?_); simp; done) | (simp only [splice, stL, digL, List.take_succ_cons, List.take_zero, List.drop_succ_cons, List.drop_zero, List.length_cons, List.length_nil, Nat.reduceAdd, Nat.reduceMul, Nat.zero_add, Nat.zero_mul, List.cons_append, List.nil_append]; exact rfl)) (.cons rfl rfl rfl (by simp) (by first | ((with_reducible refine splice_all _ _ ?_); simp; done) | (simp only [splice, stL, digL, List.take_succ_cons, List.take_zero, List.drop_succ_cons, List.drop_zero, List.length_cons, List.length_nil, Nat.reduceAdd, Nat.reduceMul, Nat.zero_add, Nat.zero_mul, List.cons_append, List.nil_append]; exact rfl)) (.cons rfl rfl rfl (by simp) (by first | ((with_reducible refine splice_all _ _ ?_); simp; done) | (simp only [splice, stL, digL, List.take_succ_cons, List.take_zero, List.drop_succ_cons, List.drop_zero, List.length_cons, List.length_nil, Nat.reduceAdd, Nat.reduceMul, Nat.zero_add, Nat.zero_mul, List.cons_append, List.nil_append]; exact rfl)) .nil))) rfl rfl (fun b24 => ?_))
  refine gl_cons (gs_append ksl158 kze148 rfl rfl rfl rfl rfl rfl (own_lit (e := 148) (size := 2) (n := 3) (b := rb) (xs := (([⟨149, [.pointer (some ⟨c3, 0, none⟩)], 9⟩, ⟨150, [.pointer (some ⟨c5, 0, none⟩), .pointer (some ⟨c3, 0, none⟩)], 28⟩, ⟨151, [.pointer (some ⟨c4, 0, none⟩)], 2⟩] : List Ru).flatMap Ru.L)) rfl) (fun _ => .tail (ReplT.app (N := [_]))) (brings_slice ksl158 (sees_all (by repeat (first | exact .head _ | refine .tail _ ?_ | refine List.mem_append_right _ ?_))) rfl (fun v hv => List.all_eq_true.1 rfl v hv)) (by decide) (fun ba25 c25 N25 hown25 => ?_))
  refine gl_cons (gs_pure (enters kcall79 (.cons rfl .nil)) (first_spec ba25 6 c25 [⟨149, [.pointer (some ⟨c3, 0, none⟩)], 9⟩, ⟨150, [.pointer (some ⟨c5, 0, none⟩), .pointer (some ⟨c3, 0, none⟩)], 28⟩, ⟨151, [.pointer (some ⟨c4, 0, none⟩)], 2⟩, ⟨100, [.pointer (some ⟨b4, 0, none⟩), .pointer (some ⟨b5, 0, none⟩)], 19⟩, ⟨101, [.pointer (some ⟨b4, 0, none⟩), .pointer (some ⟨b6, 0, none⟩)], 7⟩, ⟨102, [.pointer (some ⟨b7, 0, none⟩), .pointer (some ⟨b4, 0, none⟩), .pointer (some ⟨b6, 0, none⟩)], 22⟩] (putE ⟨st, nm, some ⟨tb, num, ad, un, pu⟩⟩ now (i : Int) amt) (fun w => Row w [] (some ⟨c3, 0, none⟩) [.pointer (some ⟨b, 0, none⟩)] ∧ Row w [] (some ⟨c4, 0, none⟩) [I64 now] ∧ Row w [] (some ⟨c5, 0, none⟩) [I64 (i : Int)] ∧ Row w [] (some ⟨b4, 0, none⟩) [.pointer (some ⟨b, 0, none⟩)] ∧ Row w [] (some ⟨b5, 0, none⟩) [I64 now] ∧ Row w [] (some ⟨b6, 0, none⟩) [I64 (i : Int)] ∧ Row w [] (some ⟨b7, 0, none⟩) [I64 amt] ∧ Row w [] (some ⟨b, 0, none⟩) (bkL (.slice (some ⟨s0, 0, none⟩) st.length sc) nm (.pointer (some ⟨p, 0, none⟩))) ∧ Row w [] (some ⟨p, 0, none⟩) (pdL tb num (.slice aa ad.length ac) un (.slice (some ⟨q, 0, none⟩) pu.length pc)) ∧ Row w [] aa (ad.map I64) ∧ Row w [] (some ⟨q, 0, none⟩) (pu.map Value.bool)) (stable_and stable_row (stable_and stable_row (stable_and stable_row (stable_and stable_row (stable_and stable_row (stable_and stable_row (stable_and stable_row (stable_and stable_row (stable_and stable_row (stable_and stable_row stable_row)))))))))) (AllR.ok kcall149 (pure_pre (asked1_some c3 p b (some ⟨s0, 0, none⟩) st.length sc nm) (fun w h => ⟨h.1, h.2.2.2.2.2.2.2.1⟩)) (AllR.if' kcall150 (pure_pre (asked2_spec c5 c3 (i : Int) (.pointer (some ⟨p, 0, none⟩)) b (some ⟨s0, 0, none⟩) st.length sc nm) (fun w h => ⟨h.2.2.1, h.1, h.2.2.2.2.2.2.2.1⟩)) (fun g2 => AllR.if' kcall151 (pure_pre (asked3_spec c4 now) (fun w h => h.2.1)) (fun g3 => AllR.if' kcall100 (pure_pre (put1_spec b4 b5 now b (some ⟨s0, 0, none⟩) st.length sc nm p tb num un aa (some ⟨q, 0, none⟩) ad.length ac pu.length pc ad pu rfl rfl) (fun w h => ⟨h.2.2.2.1, h.2.2.2.2.1, h.2.2.2.2.2.2.2.1, h.2.2.2.2.2.2.2.2.1⟩)) (fun g4 => AllR.if' kcall101 (pure_pre (put2_spec b4 b6 (i : Int) b (some ⟨s0, 0, none⟩) st.length sc nm p tb num un aa (some ⟨q, 0, none⟩) ad.length ac pu.length pc ad pu rfl rfl (by have e1 : 0 ≤ (i : Int) ∧ (i : Int) < (st.length : Int) := of_decide_eq_true g2; omega)) (fun w h => ⟨h.2.2.2.1, h.2.2.2.2.2.1, h.2.2.2.2.2.2.2.1, h.2.2.2.2.2.2.2.2.1, h.2.2.2.2.2.2.2.2.2.2⟩)) (fun g5 => AllR.if' kcall102 (pure_pre (put3_spec b7 b4 b6 (i : Int) amt b (some ⟨s0, 0, none⟩) st.length sc nm p tb num un aa (some ⟨q, 0, none⟩) ad.length ac pu.length pc ad pu rfl rfl (by have e1 : 0 ≤ (i : Int) ∧ (i : Int) < (st.length : Int) := of_decide_eq_true g2; omega)) (fun w h => ⟨h.2.2.2.2.2.2.1, h.2.2.2.1, h.2.2.2.2.2.1, h.2.2.2.2.2.2.2.1, h.2.2.2.2.2.2.2.2.1, h.2.2.2.2.2.2.2.2.2.1⟩)) (fun g6 => .nil))))))) rfl (by decide)) rfl rfl rfl (fun w hi => ⟨row_of_sees (hown25.look (by repeat (first | exact .here | exact .headR | exact .app | refine .tail ?_ | refine .appr ?_))) w hi, (row_of_sees (sees_all (by repeat (first | exact .head _ | refine .tail _ ?_ | refine List.mem_append_right _ ?_)))) w hi, (row_of_sees (sees_all (by repeat (first | exact .head _ | refine .tail _ ?_ | refine List.mem_append_right _ ?_)))) w hi, (row_of_sees (sees_all (by repeat (first | exact .head _ | refine .tail _ ?_ | refine List.mem_append_right _ ?_)))) w hi, (row_of_sees (sees_all (by repeat (first | exact .head _ | refine .tail _ ?_ | refine List.mem_append_right _ ?_)))) w hi, (row_of_sees (sees_all (by repeat (first | exact .head _ | refine .tail _ ?_ | refine List.mem_append_right _ ?_)))) w hi, (row_of_sees (sees_all (by repeat (first | exact .head _ | refine .tail _ ?_ | refine List.mem_append_right _ ?_)))) w hi, (row_of_sees (sees_all (by repeat (first | exact .head _ | refine .tail _ ?_ | refine List.mem_append_right _ ?_)))) w hi, (row_of_sees (sees_all (by repeat (first | exact .head _ | refine .tail _ ?_ | refine List.mem_append_right _ ?_)))) w hi, (row_of_sees (sees_all (by repeat (first | exact .head _ | refine .tail _ ?_ | refine List.mem_append_right _ ?_)))) w hi, (row_of_sees (hm.ad.look (by repeat (first | exact .here | exact .headR | exact .app | refine .tail ?_ | refine .appr ?_)))) w hi, (row_of_sees (hm.pu.look (by repeat (first | exact .here | exact .headR | exact .app | refine .tail ?_ | refine .appr ?_)))) w hi⟩) ?_)
  refine gl_cons (gs_val (val_assign rfl) rfl rfl rfl ?_)
  refine gl_nil ?_
  refine gk_seq ?_
  refine gc_seq ?_
  refine gc_seq ?_
  refine gc_region ?_
  refine gl_cons (gs_val (val_move rfl) rfl rfl rfl ?_)
  refine gl_cons (gs_val (val_no (val_neq rfl rfl) (not_not_intro he)) rfl rfl rfl ?_)
  refine gx_ps3 (F := fun R => ⟨b4, .cells ([.pointer (some ⟨b, 0, none⟩)] : List Value).toArray 24 (0, 0)⟩ :: ⟨b6, .cells ([I64 (i : Int)] : List Value).toArray 3 (0, 0)⟩ :: bkE 154 b (.slice (some ⟨s0, 0, none⟩) st.length sc) nm (.pointer (some ⟨p, 0, none⟩)) :: pdE 157 p tb num (.slice aa ad.length ac) un (.slice (some ⟨q, 0, none⟩) pu.length pc) :: ⟨q, .cells (pu.map Value.bool ++ pj).toArray 4 (0, 0)⟩ :: ⟨s0, .cells (st.map I64 ++ sj).toArray 3 (0, 0)⟩ :: (NA ++ R)) ?_ (fun R => .cons_cons _ (.cons_cons _ (.cons_cons _ (.cons_cons _ (.cons_cons _ (.cons_cons _ (List.sublist_append_left NA R))))))) ?_
  · dsimp only
    apply Exists.intro
    refine perm_takeX (by repeat (first | exact .cons .head .nil | apply TakeL.tail | apply TakeL.appr)) ?_
    refine perm_takeX (by repeat (first | exact .cons .head .nil | apply TakeL.tail | apply TakeL.appr)) ?_
    refine perm_takeX (by repeat (first | exact .cons .head .nil | apply TakeL.tail | apply TakeL.appr)) ?_
    refine perm_takeX (by repeat (first | exact .cons .head .nil | apply TakeL.tail | apply TakeL.appr)) ?_
    refine perm_takeX (by repeat (first | exact .cons .head .nil | apply TakeL.tail | apply TakeL.appr)) ?_
    refine perm_takeX (by repeat (first | exact .cons .head .nil | apply TakeL.tail | apply TakeL.appr)) ?_
    apply perm_takeL
    · repeat (first | exact .app | exact .here | apply TakeL.tail | apply TakeL.appr)
    · exact .refl _
  refine gl_nil ?_
  refine gk_seq ?_
  refine gc_false rfl ?_
  refine gc_skip ?_
  refine gk_seq ?_
  refine gc_seq ?_
  refine gc_draw (m := 9) kmixed (by kernel_rfl) ?_
  refine gq_val (val_load1 kag24 rfl (sees_mem (by repeat (first | exact .head _ | refine .tail _ ?_ | refine List.mem_append_right _ ?_))) rfl) rfl rfl rfl ?_
  refine gq_val (val_nilCheck rfl) rfl rfl rfl ?_
  refine gq_val (val_fieldAddr kfo154_2 rfl) rfl rfl rfl ?_
  refine gq_val (val_load1 kag152 rfl (sees_mem (by repeat (first | exact .head _ | refine .tail _ ?_ | refine List.mem_append_right _ ?_))) rfl) rfl rfl rfl ?_
  refine gq_val (val_nilCheck rfl) rfl rfl rfl ?_
  refine gq_val (val_fieldAddr kfo157_1 rfl) rfl rfl rfl ?_
  refine gq_val (val_load1 kag55 rfl (sees_mem (by repeat (first | exact .head _ | refine .tail _ ?_ | refine List.mem_append_right _ ?_))) rfl) rfl rfl rfl ?_
  refine gq_val (val_load1 kag3 rfl (sees_mem (by repeat (first | exact .head _ | refine .tail _ ?_ | refine List.mem_append_right _ ?_))) rfl) rfl rfl rfl ?_
  refine gq_val (val_cast (v := .pointer (some ⟨q, 0 + i * 1, none⟩)) (val_indexSli (m := i) ksl55 rfl rfl rfl hip (sees_all (by repeat (first | exact .head _ | refine .tail _ ?_ | refine List.mem_append_right _ ?_))) (by rw [List.length_append, List.length_map]; omega)) (idx_eq rfl)) rfl rfl rfl ?_
  refine gq_nil ?_
  refine gl_cons (gs_store ksz4 rfl rfl rfl rfl rfl rfl (by first | exact .head | exact .tail .head | exact .tail (.tail .head) | exact .tail (.tail (.tail .head)) | exact .tail (.tail (.tail (.tail .head))) | exact .tail (.tail (.tail (.tail (.tail .head))))) (by rw [List.length_append, List.length_map]; show 0 + i * 1 + 1 ≤ _; omega) (set_spBJ pu pj i true hip) ?_)
  refine gl_nil ?_
  refine gk_seq ?_
  refine gc_seq ?_
  refine gc_seq ?_
  refine gc_region ?_
  refine gl_cons (gs_val (val_load1 kag24 rfl (sees_mem (by repeat (first | exact .head _ | refine .tail _ ?_ | refine List.mem_append_right _ ?_))) rfl) rfl rfl rfl ?_)
  refine gl_cons (gs_val (val_nilCheck rfl) rfl rfl rfl ?_)
  refine gl_cons (gs_val (val_fieldAddr kfo154_2 rfl) rfl rfl rfl ?_)
  refine gl_cons (gs_val (val_load1 kag152 rfl (sees_mem (by repeat (first | exact .head _ | refine .tail _ ?_ | refine List.mem_append_right _ ?_))) rfl) rfl rfl rfl ?_)
  refine gl_cons (gs_val (val_nilCheck rfl) rfl rfl rfl ?_)
  refine gl_cons (gs_val (val_fieldAddr kfo157_1 rfl) rfl rfl rfl ?_)
  refine gl_cons (gs_val (val_load1 kag55 rfl (sees_mem (by repeat (first | exact .head _ | refine .tail _ ?_ | refine List.mem_append_right _ ?_))) rfl) rfl rfl rfl ?_)
  refine gl_cons (gs_pure (enters kcall103 (.cons rfl (.cons rfl .nil))) (containsF_yes (some ⟨q, 0, none⟩) pu.length pc (pu.set i true) (List.length_set ..) (by omega) hF) rfl rfl rfl (row_of_sees ((has_cells (b := q) (cs := (pu.set i true).map Value.bool) (junk := pj) (e := 4)).sees (fun w hi => hi.sub (sub_one_head (by repeat (first | exact .head _ | refine .tail _ ?_ | refine List.mem_append_right _ ?_)))))) ?_)
  refine gl_nil ?_
  refine gk_seq ?_
  refine gc_true rfl ?_
  refine gc_seq ?_
  refine gc_region ?_
  refine gl_cons (gs_val (val_assign rfl) rfl rfl rfl ?_)
  refine gl_nil ?_
  refine gk_seq ?_
  refine gc_ret ?_
  refine gk_seq_ret ?_
  refine gk_perm (M := (bkE 154 b (.slice (some ⟨s0, 0, none⟩) st.length sc) nm (.pointer (some ⟨p, 0, none⟩)) :: pdE 157 p tb num (.slice aa ad.length ac) un (.slice (some ⟨q, 0, none⟩) pu.length pc) :: ([⟨s0, .cells (st.map I64 ++ sj).toArray 3 (0, 0)⟩] ++ (NA ++ [⟨q, .cells ((pu.set i true).map Value.bool ++ pj).toArray 4 (0, 0)⟩]))) ++ [⟨b4, .cells ([.pointer (some ⟨b, 0, none⟩)] : List Value).toArray 24 (0, 0)⟩, ⟨b6, .cells ([I64 (i : Int)] : List Value).toArray 3 (0, 0)⟩]) (put_perm _ _ _ _ _ _ _) ?_
  refine gk_ret rfl (resv_tmp rfl .nil) (M := (bkE 154 b (.slice (some ⟨s0, 0, none⟩) st.length sc) nm (.pointer (some ⟨p, 0, none⟩)) :: pdE 157 p tb num (.slice aa ad.length ac) un (.slice (some ⟨q, 0, none⟩) pu.length pc) :: ([⟨s0, .cells (st.map I64 ++ sj).toArray 3 (0, 0)⟩] ++ (NA ++ [⟨q, .cells ((pu.set i true).map Value.bool ++ pj).toArray 4 (0, 0)⟩])))) (List.sublist_append_left _ _) ?_
  exact ⟨_, bk_put sx hm (List.length_set ..), rfl, rfl⟩

set_option maxRecDepth 8000 in
set_option maxHeartbeats 1000000 in
/-- (*baize/topup.Bank).Put -/
theorem put_last (b : Nat) (sc : Nat) (nm : Int) (st : List Int) (now : Int) (i : Nat) (amt : Int) (p : Nat) (tb : BitVec 64) (num un : Int) (aa : Option Addr) (ac pc s0 q : Nat) (ad : List Int) (pu : List Bool) (sj pj : List Value) (NA : List Ent) (hq1 : ad.length = st.length) (hq2 : pu.length = st.length) (h8 : st.length ≤ 8) (hst : ∀ x ∈ st, rightP x) (had : ∀ x ∈ ad, rightP x) (sx : Own 3 1 (some ⟨s0, 0, none⟩) st.length sc (st.map I64) [⟨s0, .cells (st.map I64 ++ sj).toArray 3 (0, 0)⟩]) (hm : Pm 3 4 (⟨tb, num, ad, un, pu⟩ : Bo) aa ac NA (some ⟨q, 0, none⟩) pc [⟨q, .cells (pu.map Value.bool ++ pj).toArray 4 (0, 0)⟩]) (he : putE ⟨st, nm, some ⟨tb, num, ad, un, pu⟩⟩ now (i : Int) amt = 0) (hF : ¬ false ∈ (pu.set i true)) : Turns Try.prog 27 ([.pointer (some ⟨b, 0, none⟩), I64 now, I64 (i : Int), I64 amt]).toArray (fun _ => True) ((bk1 154 157 b (some ⟨s0, 0, none⟩) st.length sc nm p (⟨tb, num, ad, un, pu⟩ : Bo) aa ac (some ⟨q, 0, none⟩) pc [⟨s0, .cells (st.map I64 ++ sj).toArray 3 (0, 0)⟩] NA [⟨q, .cells (pu.map Value.bool ++ pj).toArray 4 (0, 0)⟩])) (fun s : List Ent => BK 154 157 3 4 b ⟨addL st ad, nm, none⟩ s) (fun _ => I64 0) (fun s => s) := by
  obtain ⟨hr, hnow, hun, hpf, hamt⟩ := put_ok (o := (⟨tb, num, ad, un, pu⟩ : Bo)) rfl he
  have hr : 0 ≤ (i : Int) ∧ (i : Int) < (st.length : Int) := hr
  have hip : i < pu.length := by omega
  refine spec_walk (n := 75) Try.func27 rfl rfl rfl (fun w0 hpre => ?_)
  refine gc_seq ?_
  refine gc_region ?_
  refine gl_cons (gs_box rfl rfl rfl rfl (fun b4 => ?_))
  refine gl_cons (gs_box rfl rfl rfl rfl (fun b5 => ?_))
  refine gl_cons (gs_box rfl rfl rfl rfl (fun b6 => ?_))
  refine gl_cons (gs_box rfl rfl rfl rfl (fun b7 => ?_))
  refine gl_cons (gs_val (val_assign rfl) rfl rfl rfl ?_)
  refine gl_nil ?_
  refine gk_seq ?_
  refine gc_seq ?_
  refine gc_seq ?_
  refine gc_region ?_
  refine gl_cons (gs_val (val_load1 kag24 rfl (sees_mem (by repeat (first | exact .head _ | refine .tail _ ?_ | refine List.mem_append_right _ ?_))) rfl) rfl rfl rfl ?_)
  refine gl_cons (gs_val (val_eqlNil kun24 rfl rfl) rfl rfl rfl ?_)
  refine gl_nil ?_
  refine gk_seq ?_
  refine gc_false rfl ?_
  refine gc_skip ?_
  refine gk_seq ?_
  refine gc_seq ?_
  refine gc_region ?_
  refine gl_cons (gs_val (val_load1 kag24 rfl (sees_mem (by repeat (first | exact .head _ | refine .tail _ ?_ | refine List.mem_append_right _ ?_))) rfl) rfl rfl rfl ?_)
  refine gl_cons (gs_val (val_load1 kag3 rfl (sees_mem (by repeat (first | exact .head _ | refine .tail _ ?_ | refine List.mem_append_right _ ?_))) rfl) rfl rfl rfl ?_)
  refine gl_cons (gs_val (val_load1 kag3 rfl (sees_mem (by repeat (first | exact .head _ | refine .tail _ ?_ | refine List.mem_append_right _ ?_))) rfl) rfl rfl rfl ?_)
  refine gl_cons (gs_makes (enters kcall99 (.cons rfl (.cons rfl (.cons rfl .nil)))) (asked_spec b now (i : Int)) rfl rfl rfl (fun _ _ => trivial) (fun ⟨rb, c5, c4, c3⟩ _ => ?_))
  refine gx_perm (.refl (_ :: _ :: _ :: _ :: _)) ?_
  refine gl_cons (gs_val (val_makeFunc .nil (.cons rfl (.cons rfl .nil))) rfl rfl rfl ?_)
  refine gl_cons (gs_val (val_buildStr kze148 kpl148 (.cons rfl (.cons rfl .nil)) rfl (.cons rfl rfl rfl (by simp) (by first | ((with_reducible refine splice_all _ _ ?_); simp; done) | (simp only [splice, stL, digL, List.take_succ_cons, List.take_zero, List.drop_succ_cons, List.drop_zero, List.length_cons, List.length_nil, Nat.reduceAdd, Nat.reduceMul, Nat.zero_add, Nat.zero_mul, List.cons_append, List.nil_append]; exact rfl)) (.cons rfl rfl rfl (by simp) (by first | ((with_reducible refine splice_all _ _ ?_); simp; done) | (simp only [splice, stL, digL, List.take_succ_cons, List.take_zero, List.drop_succ_cons, List.drop_zero, List.length_cons, List.length_nil, Nat.reduceAdd, Nat.reduceMul, Nat.zero_add, Nat.zero_mul, List.cons_append, List.nil_append]; exact rfl)) .nil))) rfl rfl rfl ?_)
  refine gl_cons (gs_val (val_makeFunc .nil (.cons rfl (.cons rfl .nil))) rfl rfl rfl ?_)
  refine gl_cons (gs_val (val_buildStr kze148 kpl148 (.cons rfl (.cons rfl .nil)) rfl (.cons rfl rfl rfl (by simp) (by first | ((with_reducible refine splice_all _ _ ?_); simp; done) | (simp only [splice, stL, digL, List.take_succ_cons, List.take_zero, List.drop_succ_cons, List.drop_zero, List.length_cons, List.length_nil, Nat.reduceAdd, Nat.reduceMul, Nat.zero_add, Nat.zero_mul, List.cons_append, List.nil_append]; exact rfl)) (.cons rfl rfl rfl (by simp) (by first | ((with_reducible refine splice_all _ _ ?_); simp; done) | (simp only [splice, stL, digL, List.take_succ_cons, List.take_zero, List.drop_succ_cons, List.drop_zero, List.length_cons, List.length_nil, Nat.reduceAdd, Nat.reduceMul, Nat.zero_add, Nat.zero_mul, List.cons_append, List.nil_append]; exact rfl)) .nil))) rfl rfl rfl ?_)
  refine gl_cons (gs_val (val_makeFunc .nil (.cons rfl (.cons rfl (.cons rfl .nil)))) rfl rfl rfl ?_)
  refine gl_cons (gs_val (val_buildStr kze148 kpl148 (.cons rfl (.cons rfl .nil)) rfl (.cons rfl rfl rfl (by simp) (by first | ((with_reducible refine splice_all _ _ ?_); simp; done) | (simp only [splice, stL, digL, List.take_succ_cons, List.take_zero, List.drop_succ_cons, List.drop_zero, List.length_cons, List.length_nil, Nat.reduceAdd, Nat.reduceMul, Nat.zero_add, Nat.zero_mul, List.cons_append, List.nil_append]; exact rfl)) (.cons rfl rfl rfl (by simp) (by first | ((with_reducible refine splice_all _ _ ?_); simp; done) | (simp only [splice, stL, digL, List.take_succ_cons, List.take_zero, List.drop_succ_cons, List.drop_zero, List.length_cons, List.length_nil, Nat.reduceAdd, Nat.reduceMul, Nat.zero_add, Nat.zero_mul, List.cons_append, List.nil_append]; exact rfl)) .nil))) rfl rfl rfl ?_)
  refine gl_cons (gs_buildSlice (zs := [.nilFunc, .int .i64 0, .nilFunc, .int .i64 0, .nilFunc, .int .i64 0]) ksl158 kze148 rfl rfl (.cons rfl (.cons rfl (.cons rfl .nil))) (.cons rfl rfl rfl (by simp) (by first | ((with_reducible refine splice_all _ _ ?_); simp; done) | (simp only [splice, stL, digL, List.take_succ_cons, List.take_zero, List.drop_succ_cons, List.drop_zero, List.length_cons, List.length_nil, Nat.reduceAdd, Nat.reduceMul, Nat.zero_add, Nat.zero_mul, List.cons_append, List.nil_append]; exact rfl)) (.cons rfl rfl rfl (by simp) (by first | ((with_reducible refine splice_all _ _ ?_); simp; done) | (simp only [splice, stL, digL, List.take_succ_cons, List.take_zero, List.drop_succ_cons, List.drop_zero, List.length_cons, List.length_nil, Nat.reduceAdd, Nat.reduceMul, Nat.zero_add, Nat.zero_mul, List.cons_append, List.nil_append]; exact rfl)) (.cons rfl rfl rfl (by simp) (by first | ((with_reducible refine splice_all _ _ ?_); simp; done) | (simp only [splice, stL, digL, List.take_succ_cons, List.take_zero, List.drop_succ_cons, List.drop_zero, List.length_cons, List.length_nil, Nat.reduceAdd, Nat.reduceMul, Nat.zero_add, Nat.zero_mul, List.cons_append, List.nil_append]; exact rfl)) .nil))) rfl rfl (fun b24 => ?_))
  refine gl_cons (gs_append ksl158 kze148 rfl rfl rfl rfl rfl rfl (own_lit (e := 148) (size := 2) (n := 3) (b := rb) (xs := (([⟨149, [.pointer (some ⟨c3, 0, none⟩)], 9⟩, ⟨150, [.pointer (some ⟨c5, 0, none⟩), .pointer (some ⟨c3, 0, none⟩)], 28⟩, ⟨151, [.pointer (some ⟨c4, 0, none⟩)], 2⟩] : List Ru).flatMap Ru.L)) rfl) (fun _ => .tail (ReplT.app (N := [_]))) (brings_slice ksl158 (sees_all (by repeat (first | exact .head _ | refine .tail _ ?_ | refine List.mem_append_right _ ?_))) rfl (fun v hv => List.all_eq_true.1 rfl v hv)) (by decide) (fun ba25 c25 N25 hown25 => ?_))
  refine gl_cons (gs_pure (enters kcall79 (.cons rfl .nil)) (first_spec ba25 6 c25 [⟨149, [.pointer (some ⟨c3, 0, none⟩)], 9⟩, ⟨150, [.pointer (some ⟨c5, 0, none⟩), .pointer (some ⟨c3, 0, none⟩)], 28⟩, ⟨151, [.pointer (some ⟨c4, 0, none⟩)], 2⟩, ⟨100, [.pointer (some ⟨b4, 0, none⟩), .pointer (some ⟨b5, 0, none⟩)], 19⟩, ⟨101, [.pointer (some ⟨b4, 0, none⟩), .pointer (some ⟨b6, 0, none⟩)], 7⟩, ⟨102, [.pointer (some ⟨b7, 0, none⟩), .pointer (some ⟨b4, 0, none⟩), .pointer (some ⟨b6, 0, none⟩)], 22⟩] (putE ⟨st, nm, some ⟨tb, num, ad, un, pu⟩⟩ now (i : Int) amt) (fun w => Row w [] (some ⟨c3, 0, none⟩) [.pointer (some ⟨b, 0, none⟩)] ∧ Row w [] (some ⟨c4, 0, none⟩) [I64 now] ∧ Row w [] (some ⟨c5, 0, none⟩) [I64 (i : Int)] ∧ Row w [] (some ⟨b4, 0, none⟩) [.pointer (some ⟨b, 0, none⟩)] ∧ Row w [] (some ⟨b5, 0, none⟩) [I64 now] ∧ Row w [] (some ⟨b6, 0, none⟩) [I64 (i : Int)] ∧ Row w [] (some ⟨b7, 0, none⟩) [I64 amt] ∧ Row w [] (some ⟨b, 0, none⟩) (bkL (.slice (some ⟨s0, 0, none⟩) st.length sc) nm (.pointer (some ⟨p, 0, none⟩))) ∧ Row w [] (some ⟨p, 0, none⟩) (pdL tb num (.slice aa ad.length ac) un (.slice (some ⟨q, 0, none⟩) pu.length pc)) ∧ Row w [] aa (ad.map I64) ∧ Row w [] (some ⟨q, 0, none⟩) (pu.map Value.bool)) (stable_and stable_row (stable_and stable_row (stable_and stable_row (stable_and stable_row (stable_and stable_row (stable_and stable_row (stable_and stable_row (stable_and stable_row (stable_and stable_row (stable_and stable_row stable_row)))))))))) (AllR.ok kcall149 (pure_pre (asked1_some c3 p b (some ⟨s0, 0, none⟩) st.length sc nm) (fun w h => ⟨h.1, h.2.2.2.2.2.2.2.1⟩)) (AllR.if' kcall150 (pure_pre (asked2_spec c5 c3 (i : Int) (.pointer (some ⟨p, 0, none⟩)) b (some ⟨s0, 0, none⟩) st.length sc nm) (fun w h => ⟨h.2.2.1, h.1, h.2.2.2.2.2.2.2.1⟩)) (fun g2 => AllR.if' kcall151 (pure_pre (asked3_spec c4 now) (fun w h => h.2.1)) (fun g3 => AllR.if' kcall100 (pure_pre (put1_spec b4 b5 now b (some ⟨s0, 0, none⟩) st.length sc nm p tb num un aa (some ⟨q, 0, none⟩) ad.length ac pu.length pc ad pu rfl rfl) (fun w h => ⟨h.2.2.2.1, h.2.2.2.2.1, h.2.2.2.2.2.2.2.1, h.2.2.2.2.2.2.2.2.1⟩)) (fun g4 => AllR.if' kcall101 (pure_pre (put2_spec b4 b6 (i : Int) b (some ⟨s0, 0, none⟩) st.length sc nm p tb num un aa (some ⟨q, 0, none⟩) ad.length ac pu.length pc ad pu rfl rfl (by have e1 : 0 ≤ (i : Int) ∧ (i : Int) < (st.length : Int) := of_decide_eq_true g2; omega)) (fun w h => ⟨h.2.2.2.1, h.2.2.2.2.2.1, h.2.2.2.2.2.2.2.1, h.2.2.2.2.2.2.2.2.1, h.2.2.2.2.2.2.2.2.2.2⟩)) (fun g5 => AllR.if' kcall102 (pure_pre (put3_spec b7 b4 b6 (i : Int) amt b (some ⟨s0, 0, none⟩) st.length sc nm p tb num un aa (some ⟨q, 0, none⟩) ad.length ac pu.length pc ad pu rfl rfl (by have e1 : 0 ≤ (i : Int) ∧ (i : Int) < (st.length : Int) := of_decide_eq_true g2; omega)) (fun w h => ⟨h.2.2.2.2.2.2.1, h.2.2.2.1, h.2.2.2.2.2.1, h.2.2.2.2.2.2.2.1, h.2.2.2.2.2.2.2.2.1, h.2.2.2.2.2.2.2.2.2.1⟩)) (fun g6 => .nil))))))) rfl (by decide)) rfl rfl rfl (fun w hi => ⟨row_of_sees (hown25.look (by repeat (first | exact .here | exact .headR | exact .app | refine .tail ?_ | refine .appr ?_))) w hi, (row_of_sees (sees_all (by repeat (first | exact .head _ | refine .tail _ ?_ | refine List.mem_append_right _ ?_)))) w hi, (row_of_sees (sees_all (by repeat (first | exact .head _ | refine .tail _ ?_ | refine List.mem_append_right _ ?_)))) w hi, (row_of_sees (sees_all (by repeat (first | exact .head _ | refine .tail _ ?_ | refine List.mem_append_right _ ?_)))) w hi, (row_of_sees (sees_all (by repeat (first | exact .head _ | refine .tail _ ?_ | refine List.mem_append_right _ ?_)))) w hi, (row_of_sees (sees_all (by repeat (first | exact .head _ | refine .tail _ ?_ | refine List.mem_append_right _ ?_)))) w hi, (row_of_sees (sees_all (by repeat (first | exact .head _ | refine .tail _ ?_ | refine List.mem_append_right _ ?_)))) w hi, (row_of_sees (sees_all (by repeat (first | exact .head _ | refine .tail _ ?_ | refine List.mem_append_right _ ?_)))) w hi, (row_of_sees (sees_all (by repeat (first | exact .head _ | refine .tail _ ?_ | refine List.mem_append_right _ ?_)))) w hi, (row_of_sees (sees_all (by repeat (first | exact .head _ | refine .tail _ ?_ | refine List.mem_append_right _ ?_)))) w hi, (row_of_sees (hm.ad.look (by repeat (first | exact .here | exact .headR | exact .app | refine .tail ?_ | refine .appr ?_)))) w hi, (row_of_sees (hm.pu.look (by repeat (first | exact .here | exact .headR | exact .app | refine .tail ?_ | refine .appr ?_)))) w hi⟩) ?_)
  refine gl_cons (gs_val (val_assign rfl) rfl rfl rfl ?_)
  refine gl_nil ?_
  refine gk_seq ?_
  refine gc_seq ?_
  refine gc_seq ?_
  refine gc_region ?_
  refine gl_cons (gs_val (val_move rfl) rfl rfl rfl ?_)
  refine gl_cons (gs_val (val_no (val_neq rfl rfl) (not_not_intro he)) rfl rfl rfl ?_)
  refine gx_ps3 (F := fun R => ⟨b4, .cells ([.pointer (some ⟨b, 0, none⟩)] : List Value).toArray 24 (0, 0)⟩ :: ⟨b6, .cells ([I64 (i : Int)] : List Value).toArray 3 (0, 0)⟩ :: bkE 154 b (.slice (some ⟨s0, 0, none⟩) st.length sc) nm (.pointer (some ⟨p, 0, none⟩)) :: pdE 157 p tb num (.slice aa ad.length ac) un (.slice (some ⟨q, 0, none⟩) pu.length pc) :: ⟨q, .cells (pu.map Value.bool ++ pj).toArray 4 (0, 0)⟩ :: ⟨s0, .cells (st.map I64 ++ sj).toArray 3 (0, 0)⟩ :: (NA ++ R)) ?_ (fun R => .cons_cons _ (.cons_cons _ (.cons_cons _ (.cons_cons _ (.cons_cons _ (.cons_cons _ (List.sublist_append_left NA R))))))) ?_
  · dsimp only
    apply Exists.intro
    refine perm_takeX (by repeat (first | exact .cons .head .nil | apply TakeL.tail | apply TakeL.appr)) ?_
    refine perm_takeX (by repeat (first | exact .cons .head .nil | apply TakeL.tail | apply TakeL.appr)) ?_
    refine perm_takeX (by repeat (first | exact .cons .head .nil | apply TakeL.tail | apply TakeL.appr)) ?_
    refine perm_takeX (by repeat (first | exact .cons .head .nil | apply TakeL.tail | apply TakeL.appr)) ?_
    refine perm_takeX (by repeat (first | exact .cons .head .nil | apply TakeL.tail | apply TakeL.appr)) ?_
    refine perm_takeX (by repeat (first | exact .cons .head .nil | apply TakeL.tail | apply TakeL.appr)) ?_
    apply perm_takeL
    · repeat (first | exact .app | exact .here | apply TakeL.tail | apply TakeL.appr)
    · exact .refl _
  refine gl_nil ?_
  refine gk_seq ?_
  refine gc_false rfl ?_
  refine gc_skip ?_
  refine gk_seq ?_
  refine gc_seq ?_
  refine gc_draw (m := 9) kmixed (by kernel_rfl) ?_
  refine gq_val (val_load1 kag24 rfl (sees_mem (by repeat (first | exact .head _ | refine .tail _ ?_ | refine List.mem_append_right _ ?_))) rfl) rfl rfl rfl ?_
  refine gq_val (val_nilCheck rfl) rfl rfl rfl ?_
  refine gq_val (val_fieldAddr kfo154_2 rfl) rfl rfl rfl ?_
  refine gq_val (val_load1 kag152 rfl (sees_mem (by repeat (first | exact .head _ | refine .tail _ ?_ | refine List.mem_append_right _ ?_))) rfl) rfl rfl rfl ?_
  refine gq_val (val_nilCheck rfl) rfl rfl rfl ?_
  refine gq_val (val_fieldAddr kfo157_1 rfl) rfl rfl rfl ?_
  refine gq_val (val_load1 kag55 rfl (sees_mem (by repeat (first | exact .head _ | refine .tail _ ?_ | refine List.mem_append_right _ ?_))) rfl) rfl rfl rfl ?_
  refine gq_val (val_load1 kag3 rfl (sees_mem (by repeat (first | exact .head _ | refine .tail _ ?_ | refine List.mem_append_right _ ?_))) rfl) rfl rfl rfl ?_
  refine gq_val (val_cast (v := .pointer (some ⟨q, 0 + i * 1, none⟩)) (val_indexSli (m := i) ksl55 rfl rfl rfl hip (sees_all (by repeat (first | exact .head _ | refine .tail _ ?_ | refine List.mem_append_right _ ?_))) (by rw [List.length_append, List.length_map]; omega)) (idx_eq rfl)) rfl rfl rfl ?_
  refine gq_nil ?_
  refine gl_cons (gs_store ksz4 rfl rfl rfl rfl rfl rfl (by first | exact .head | exact .tail .head | exact .tail (.tail .head) | exact .tail (.tail (.tail .head)) | exact .tail (.tail (.tail (.tail .head))) | exact .tail (.tail (.tail (.tail (.tail .head))))) (by rw [List.length_append, List.length_map]; show 0 + i * 1 + 1 ≤ _; omega) (set_spBJ pu pj i true hip) ?_)
  refine gl_nil ?_
  refine gk_seq ?_
  refine gc_seq ?_
  refine gc_seq ?_
  refine gc_region ?_
  refine gl_cons (gs_val (val_load1 kag24 rfl (sees_mem (by repeat (first | exact .head _ | refine .tail _ ?_ | refine List.mem_append_right _ ?_))) rfl) rfl rfl rfl ?_)
  refine gl_cons (gs_val (val_nilCheck rfl) rfl rfl rfl ?_)
  refine gl_cons (gs_val (val_fieldAddr kfo154_2 rfl) rfl rfl rfl ?_)
  refine gl_cons (gs_val (val_load1 kag152 rfl (sees_mem (by repeat (first | exact .head _ | refine .tail _ ?_ | refine List.mem_append_right _ ?_))) rfl) rfl rfl rfl ?_)
  refine gl_cons (gs_val (val_nilCheck rfl) rfl rfl rfl ?_)
  refine gl_cons (gs_val (val_fieldAddr kfo157_1 rfl) rfl rfl rfl ?_)
  refine gl_cons (gs_val (val_load1 kag55 rfl (sees_mem (by repeat (first | exact .head _ | refine .tail _ ?_ | refine List.mem_append_right _ ?_))) rfl) rfl rfl rfl ?_)
  refine gl_cons (gs_pure (enters kcall103 (.cons rfl (.cons rfl .nil))) (containsF_no (some ⟨q, 0, none⟩) pu.length pc (pu.set i true) (List.length_set ..) (by omega) hF) rfl rfl rfl (row_of_sees ((has_cells (b := q) (cs := (pu.set i true).map Value.bool) (junk := pj) (e := 4)).sees (fun w hi => hi.sub (sub_one_head (by repeat (first | exact .head _ | refine .tail _ ?_ | refine List.mem_append_right _ ?_)))))) ?_)
  refine gl_nil ?_
  refine gk_seq ?_
  refine gc_false rfl ?_
  refine gc_skip ?_
  refine gk_seq ?_
  refine gc_seq ?_
  refine gc_seq ?_
  refine gc_region ?_
  refine gl_cons (gs_val (val_load1 kag24 rfl (sees_mem (by repeat (first | exact .head _ | refine .tail _ ?_ | refine List.mem_append_right _ ?_))) rfl) rfl rfl rfl ?_)
  refine gl_cons (gs_val (val_nilCheck rfl) rfl rfl rfl ?_)
  refine gl_cons (gs_val (val_fieldAddr kfo154_2 rfl) rfl rfl rfl ?_)
  refine gl_cons (gs_val (val_load1 kag152 rfl (sees_mem (by repeat (first | exact .head _ | refine .tail _ ?_ | refine List.mem_append_right _ ?_))) rfl) rfl rfl rfl ?_)
  refine gl_cons (gs_val (val_nilCheck rfl) rfl rfl rfl ?_)
  refine gl_cons (gs_val (val_fieldAddr kfo157_0 rfl) rfl rfl rfl ?_)
  refine gl_cons (gs_val (val_fieldAddr kfo33_2 rfl) rfl rfl rfl ?_)
  refine gl_cons (gs_val (val_load1 kag22 rfl (sees_mem (by repeat (first | exact .head _ | refine .tail _ ?_ | refine List.mem_append_right _ ?_))) rfl) rfl rfl rfl ?_)
  refine gl_cons (gs_val (val_lenSli ksl22 rfl) rfl rfl rfl ?_)
  refine gl_cons (gs_val (val_move rfl) rfl rfl rfl ?_)
  refine gl_nil ?_
  refine gk_seq ?_
  refine gc_block ?_
  refine gc_loop (σ := Nat) (I := fun v => v ≤ ad.length) (μ := fun v => ad.length - v) (EI := fun v => [(56, I64 (v : Int)), (55, I64 (ad.length : Int)), (4, .pointer (some ⟨b4, 0, none⟩)), (8, .int .i64 0), (54, .slice aa ad.length ac)]) (LI := fun v => ⟨b4, .cells ([.pointer (some ⟨b, 0, none⟩)] : List Value).toArray 24 (0, 0)⟩ :: bkE 154 b (.slice (some ⟨s0, 0, none⟩) st.length sc) nm (.pointer (some ⟨p, 0, none⟩)) :: ⟨s0, .cells ((addT st ad v).map I64 ++ sj).toArray 3 (0, 0)⟩ :: NA) 0 ?_ ?_ ?_ ?_
  · exact Nat.zero_le _
  · exact (.cons rfl (.cons rfl (.cons rfl (.cons rfl (.cons rfl .nil)))))
  · exact fun _ h => by rw [addT_zero]; exact h.sub (.cons_cons _ (.cons _ (.cons_cons _ (.cons _ (.cons _ (List.Sublist.refl _))))))
  · intro k hkn'
    have hkn' : k ≤ ad.length := hkn'
    refine gc_seq ?_
    refine gc_region ?_
    refine gl_cons (gs_val (val_lss rfl rfl) rfl rfl rfl ?_)
    refine gl_nil ?_
    refine gk_seq ?_
    refine gc_seq ?_
    refine gc_if rfl (fun hj => ?_) (fun hj => ?_)
    · have hka : k < ad.length := by omega
      have hks : k < st.length := by omega
      have hkl := addT_len hq1.symm (k := k) (by omega)
      have hkt : k < (addT st ad k).length := by omega
      have r1 : rightP st[k] := hst _ (List.getElem_mem hks)
      have r2 : rightP ad[k] := had _ (List.getElem_mem hka)
      refine gc_skip ?_
      refine gk_seq ?_
      refine gc_seq ?_
      refine gc_block ?_
      refine gc_seq ?_
      refine gc_region ?_
      refine gl_cons (gs_val (val_move rfl) rfl rfl rfl ?_)
      refine gl_cons (gs_val (val_indexSli (m := k) ksl22 rfl rfl (by omega) (by omega) (hm.ad.look (by repeat (first | exact .here | exact .headR | exact .app | refine .tail ?_ | refine .appr ?_))) (by (try simp only [List.length_map, Nat.mul_one, dig_len, inc_len, List.length_append, List.length_cons, List.length_nil, List.length_replicate]); omega)) rfl rfl rfl ?_)
      refine gl_cons (gs_val (val_cast (v := I64 ad[k]) (val_load1 kag3 rfl ((hm.ad.look (by repeat (first | exact .here | exact .headR | exact .app | refine .tail ?_ | refine .appr ?_))).elem hka) rfl) rfl) rfl rfl rfl ?_)
      refine gl_cons (gs_val (val_assign rfl) rfl rfl rfl ?_)
      refine gl_cons (gs_val (val_assign rfl) rfl rfl rfl ?_)
      refine gl_nil ?_
      refine gk_seq ?_
      refine gc_region ?_
      refine gl_cons (gs_val (val_load1 kag24 rfl (sees_mem (by repeat (first | exact .head _ | refine .tail _ ?_ | refine List.mem_append_right _ ?_))) rfl) rfl rfl rfl ?_)
      refine gl_cons (gs_val (val_nilCheck rfl) rfl rfl rfl ?_)
      refine gl_cons (gs_val (val_fieldAddr kfo154_0 rfl) rfl rfl rfl ?_)
      refine gl_cons (gs_val (val_load1 kag22 rfl (sees_mem (by repeat (first | exact .head _ | refine .tail _ ?_ | refine List.mem_append_right _ ?_))) rfl) rfl rfl rfl ?_)
      refine gl_cons (gs_val (val_move rfl) rfl rfl rfl ?_)
      refine gl_cons (gs_val (val_cast (v := .pointer (some ⟨s0, 0 + k * 1, none⟩)) (val_indexSli (m := k) ksl22 rfl rfl rfl hks (sees_all (by repeat (first | exact .head _ | refine .tail _ ?_ | refine List.mem_append_right _ ?_))) (by rw [List.length_append, List.length_map]; omega)) (idx_eq rfl)) rfl rfl rfl ?_)
      refine gl_cons (gs_val (val_cast (v := I64 st[k]) (val_load1 kag3 rfl (((has_cells (b := s0) (cs := (addT st ad k).map I64) (junk := sj) (e := 3)).sees (fun w hi => hi.sub (sub_one_head (by repeat (first | exact .head _ | refine .tail _ ?_ | refine List.mem_append_right _ ?_))))).at' hkt) rfl) (congrArg I64 (addT_at hq1.symm hks hkt))) rfl rfl rfl ?_)
      refine gl_cons (gs_val (val_move rfl) rfl rfl rfl ?_)
      refine gl_cons (gs_val (val_addI rfl rfl (by omega)) rfl rfl rfl ?_)
      refine gl_cons (gs_val (val_cast (v := .pointer (some ⟨s0, 0 + k * 1, none⟩)) (val_indexSli (m := k) ksl22 rfl rfl rfl hks (sees_all (by repeat (first | exact .head _ | refine .tail _ ?_ | refine List.mem_append_right _ ?_))) (by rw [List.length_append, List.length_map]; omega)) (idx_eq rfl)) rfl rfl rfl ?_)
      refine gl_cons (gs_store ksz3 rfl rfl rfl rfl rfl rfl (by first | exact .head | exact .tail .head | exact .tail (.tail .head) | exact .tail (.tail (.tail .head)) | exact .tail (.tail (.tail (.tail .head))) | exact .tail (.tail (.tail (.tail (.tail .head))))) (by rw [List.length_append, List.length_map]; show 0 + k * 1 + 1 ≤ _; omega) (set_spIJ _ sj k _ (by omega)) ?_)
      refine gl_nil ?_
      refine gk_block ?_
      refine gk_seq ?_
      refine gc_region ?_
      refine gl_cons (gs_val (val_addI rfl rfl (by omega)) rfl rfl rfl ?_)
      refine gl_cons (gs_val (val_move rfl) rfl rfl rfl ?_)
      refine gl_nil ?_
      refine gk_again (k + 1) ?_ ?_ ?_ ?_
      · show k + 1 ≤ _; omega
      · show _ - (k + 1) < _ - k; omega
      · exact (.cons (rfl) (.cons (rfl) (.cons (rfl) (.cons (rfl) (.cons (rfl) .nil)))))
      · rw [← addT_step hq1.symm hks]; exact fun _ h => h
    · obtain rfl : k = ad.length := by omega
      rw [hq1, addT_all hq1.symm]
      refine gc_exit ?_
      refine gk_seq_exit ?_
      refine gk_loop_exit ?_
      refine gk_block_exit ?_
      refine gk_seq ?_
      refine gc_seq ?_
      refine gc_region ?_
      refine gl_cons (gs_val (val_load1 kag24 rfl (sees_mem (by repeat (first | exact .head _ | refine .tail _ ?_ | refine List.mem_append_right _ ?_))) rfl) rfl rfl rfl ?_)
      refine gl_cons (gs_val (val_nilCheck rfl) rfl rfl rfl ?_)
      refine gl_cons (gs_val (val_fieldAddr kfo154_2 rfl) rfl rfl rfl ?_)
      refine gl_cons (gs_store ksz152 rfl rfl rfl rfl rfl rfl (by first | exact .head | exact .tail .head | exact .tail (.tail .head) | exact .tail (.tail (.tail .head)) | exact .tail (.tail (.tail (.tail .head))) | exact .tail (.tail (.tail (.tail (.tail .head))))) (by simp) (by first | ((with_reducible refine splice_all _ _ ?_); simp; done) | (simp only [splice, stL, digL, List.take_succ_cons, List.take_zero, List.drop_succ_cons, List.drop_zero, List.length_cons, List.length_nil, Nat.reduceAdd, Nat.reduceMul, Nat.zero_add, Nat.zero_mul, List.cons_append, List.nil_append]; exact rfl)) ?_)
      refine gl_nil ?_
      refine gk_seq ?_
      refine gc_seq ?_
      refine gc_region ?_
      refine gl_cons (gs_val (val_assign rfl) rfl rfl rfl ?_)
      refine gl_nil ?_
      refine gk_seq ?_
      refine gc_ret ?_
      refine gk_ret rfl (resv_tmp rfl .nil) (M := bkE 154 b (.slice (some ⟨s0, 0, none⟩) st.length sc) nm (.pointer none) :: [⟨s0, .cells ((addL st ad).map I64 ++ sj).toArray 3 (0, 0)⟩]) (.cons _ (.cons_cons _ (.cons_cons _ (List.nil_sublist _)))) ?_
      exact ⟨_, bk_last sx (addL_len hq1.symm), rfl, rfl⟩

end Go.Proofs.Ytddckbhlfeegoaa
