/- The walk of functions of the program: what each computes, for every input. -/
import Derived.Test.YtddckbhlfeegoaaWBFacts
import Derived.Test.YtddckbhlfeegoaaWBlaw52
namespace Go.Proofs.Ytddckbhlfeegoaa
open Go Go.Eng
set_option linter.unusedVariables false
set_option linter.unusedSimpArgs false

/-- baize/baizelaw52.begin -/
theorem begin52_spec (x y : Int) (p q : Nat) (hp : (BitVec.ofInt 64 x % 16#64).toNat + 1 = p) (hq : (BitVec.ofInt 64 y % BitVec.ofNat 64 p).toNat + 1 = q) : Makes Try.prog 57 ([.agg ([I64 x, I64 y]).toArray]).toArray (fun _ => True) (fun s : Nat × Option Addr × Nat × List Ent => Own 3 1 s.2.1 p s.2.2.1 ((List.replicate p (-1 : Int)).map I64) s.2.2.2) (fun s => .tuple #[.pointer (some ⟨s.1, 0, none⟩), .agg (rgL (p : Int) (q : Int) (-1) ⟨#[]⟩ (.slice s.2.1 p s.2.2.1) false 0 0).toArray]) (fun s => ⟨s.1, .cells (gdL 516#64 p q 0 0 false 0#64 0 nilS (List.replicate 16 (-1 : Int))).toArray 200 (0, 0)⟩ :: s.2.2.2) := by
  obtain ⟨h1, h2, h3, h4⟩ := begin_range x y p q hp hq
  have hpne := ofNat_ne p (by omega) (by omega)
  have hpi : BitVec.ofInt 64 (p : Int) = BitVec.ofNat 64 p := BitVec.ofInt_natCast 64 p
  refine spec_walk (n := 39) Try.func57 rfl rfl rfl (fun w0 hpre => ?_)
  refine gc_seq ?_
  refine gc_region ?_
  refine gl_cons (gs_box rfl rfl rfl rfl (fun b1 => ?_))
  refine gl_cons (gs_val (val_assign rfl) rfl rfl rfl ?_)
  refine gl_cons (gs_alloc kze115 rfl rfl rfl (fun b3 => ?_))
  refine gl_nil ?_
  refine gk_seq ?_
  refine gc_seq ?_
  refine gc_region ?_
  refine gl_cons (gs_val (val_indexArr (m := 0) kar110 rfl rfl rfl (by decide)) rfl rfl rfl ?_)
  refine gl_cons (gs_val (val_load1 kag3 rfl (sees_mem (by repeat (first | exact .head _ | refine .tail _ ?_ | refine List.mem_append_right _ ?_))) rfl) rfl rfl rfl ?_)
  refine gl_cons (gs_val (val_conv64 rfl kis3 kun50) rfl rfl rfl ?_)
  refine gl_cons (gs_val (val_rem64 (j := 16#64) rfl rfl rfl rfl (by decide)) rfl rfl rfl ?_)
  refine gl_cons (gs_val (val_convI rfl kis50 kun3 (by omega)) rfl rfl rfl ?_)
  refine gl_cons (gs_val (val_cast (v := I64 (p : Int)) (val_addI rfl rfl (by omega)) (congrArg I64 (by omega))) rfl rfl rfl ?_)
  refine gl_cons (gs_val (val_assign rfl) rfl rfl rfl ?_)
  refine gl_nil ?_
  refine gk_seq ?_
  refine gc_seq ?_
  refine gc_region ?_
  refine gl_cons (gs_val (val_indexArr (m := 1) kar110 rfl rfl rfl (by decide)) rfl rfl rfl ?_)
  refine gl_cons (gs_val (val_load1 kag3 rfl (sees_mem (by repeat (first | exact .head _ | refine .tail _ ?_ | refine List.mem_append_right _ ?_))) rfl) rfl rfl rfl ?_)
  refine gl_cons (gs_val (val_conv64 rfl kis3 kun50) rfl rfl rfl ?_)
  refine gl_cons (gs_val (val_move rfl) rfl rfl rfl ?_)
  refine gl_cons (gs_val (val_cast (v := U64 (BitVec.ofNat 64 p)) (val_conv64 rfl kis3 kun50) (congrArg U64 hpi)) rfl rfl rfl ?_)
  refine gl_cons (gs_val (val_rem64 (i := BitVec.ofInt 64 y) (j := BitVec.ofNat 64 p) rfl rfl rfl rfl hpne) rfl rfl rfl ?_)
  refine gl_cons (gs_val (val_convI rfl kis50 kun3 (by omega)) rfl rfl rfl ?_)
  refine gl_cons (gs_val (val_cast (v := I64 (q : Int)) (val_addI rfl rfl (by omega)) (congrArg I64 (by omega))) rfl rfl rfl ?_)
  refine gl_cons (gs_val (val_assign rfl) rfl rfl rfl ?_)
  refine gl_nil ?_
  refine gk_seq ?_
  refine gc_seq ?_
  refine gc_region ?_
  refine gl_cons (gs_pure (enters kcall65 .nil) (nonce_spec) rfl rfl rfl (fun _ _ => trivial) ?_)
  refine gl_cons (gs_val (val_move rfl) rfl rfl rfl ?_)
  refine gl_cons (gs_val (val_move rfl) rfl rfl rfl ?_)
  refine gl_cons (gs_makes (enters kcall68 (.cons rfl (.cons rfl (.cons rfl .nil)))) (newG_ok 516#64 p q h1 h2 h3 h4) rfl rfl rfl (fun _ _ => trivial) (fun bg _ => ?_))
  refine gl_cons (gs_val (val_move rfl) rfl rfl rfl ?_)
  refine gl_cons (gs_val (val_extract rfl rfl) rfl rfl rfl ?_)
  refine gl_cons (gs_val (val_extract rfl rfl) rfl rfl rfl ?_)
  refine gl_cons (gs_val (val_assign rfl) rfl rfl rfl ?_)
  refine gl_cons (gs_val (val_assign rfl) rfl rfl rfl ?_)
  refine gl_nil ?_
  refine gk_seq ?_
  refine gc_seq ?_
  refine gc_region ?_
  refine gl_cons (gs_val (val_move rfl) rfl rfl rfl ?_)
  refine gl_cons (gs_val (val_move rfl) rfl rfl rfl ?_)
  refine gl_cons (gs_makes (enters kcall69 (.cons rfl (.cons rfl .nil))) (rnewG_ok p q h1 h2 h3 h4) rfl rfl rfl (fun _ _ => trivial) (fun ⟨rb, rc, rN⟩ hr => ?_))
  refine gx_perm List.perm_append_comm ?_
  refine gl_cons (gs_val (val_move rfl) rfl rfl rfl ?_)
  refine gl_cons (gs_val (val_extract rfl rfl) rfl rfl rfl ?_)
  refine gl_cons (gs_val (val_extract rfl rfl) rfl rfl rfl ?_)
  refine gl_cons (gs_alloc kze115 rfl rfl rfl (fun b8 => ?_))
  refine gl_cons (gs_store ksz115 rfl rfl rfl rfl rfl rfl (by first | exact .head | exact .tail .head | exact .tail (.tail .head) | exact .tail (.tail (.tail .head)) | exact .tail (.tail (.tail (.tail .head))) | exact .tail (.tail (.tail (.tail (.tail .head))))) (by simp) (by first | ((with_reducible refine splice_all _ _ ?_); simp; done) | (simp only [splice, stL, digL, List.take_succ_cons, List.take_zero, List.drop_succ_cons, List.drop_zero, List.length_cons, List.length_nil, Nat.reduceAdd, Nat.reduceMul, Nat.zero_add, Nat.zero_mul, List.cons_append, List.nil_append]; exact rfl)) ?_)
  refine gl_cons (gs_val (val_assign rfl) rfl rfl rfl ?_)
  refine gl_nil ?_
  refine gk_seq ?_
  refine gc_seq ?_
  refine gc_draw (m := 3) kmixed (by kernel_rfl) ?_
  refine gq_val (val_move rfl) rfl rfl rfl ?_
  refine gq_val (val_loadA kag115 rfl (sees_mem (by repeat (first | exact .head _ | refine .tail _ ?_ | refine List.mem_append_right _ ?_))) rfl rfl) rfl rfl rfl ?_
  refine gq_val (val_assign rfl) rfl rfl rfl ?_
  refine gq_nil ?_
  refine gl_cons (gs_store ksz115 rfl rfl rfl rfl rfl rfl (by first | exact .head | exact .tail .head | exact .tail (.tail .head) | exact .tail (.tail (.tail .head)) | exact .tail (.tail (.tail (.tail .head))) | exact .tail (.tail (.tail (.tail (.tail .head))))) (by simp) (by first | ((with_reducible refine splice_all _ _ ?_); simp; done) | (simp only [splice, stL, digL, List.take_succ_cons, List.take_zero, List.drop_succ_cons, List.drop_zero, List.length_cons, List.length_nil, Nat.reduceAdd, Nat.reduceMul, Nat.zero_add, Nat.zero_mul, List.cons_append, List.nil_append]; exact rfl)) ?_)
  refine gl_nil ?_
  refine gk_seq ?_
  refine gc_ret ?_
  refine gk_ret rfl (resv_tmp rfl (resv_cellA kag115 rfl (sees_mem (by repeat (first | exact .head _ | refine .tail _ ?_ | refine List.mem_append_right _ ?_))) rfl rfl .nil)) (M := ⟨bg, .cells (gdL 516#64 p q 0 0 false 0#64 0 nilS (List.replicate 16 (-1 : Int))).toArray 200 (0, 0)⟩ :: rN) (.cons _ (List.Sublist.cons_cons _ (.cons _ (.cons _ (List.Sublist.refl _))))) ?_
  exact ⟨(bg, rb, rc, rN), hr, rfl, rfl⟩

set_option maxRecDepth 8000 in
/-- baize/baizelaw52.GuardDue -/
theorem guardDue_walk (x y : Int) (ba : Option Addr) (n cap : Nat) (l : List Bool) (m : Int) (hn : l.length = n) : Pure Try.prog 17 ([.agg ([I64 x, I64 y]).toArray, .slice ba n cap, I64 m]).toArray (fun w => Row w [] ba (l.map Value.bool)) (.bool true) := by
  obtain ⟨p, hp⟩ : ∃ p, (BitVec.ofInt 64 x % 16#64).toNat + 1 = p := ⟨_, rfl⟩
  obtain ⟨q, hq⟩ : ∃ q, (BitVec.ofInt 64 y % BitVec.ofNat 64 p).toNat + 1 = q := ⟨_, rfl⟩
  obtain ⟨h1, h2, h3, h4⟩ := begin_range x y p q hp hq
  have hml : (BitVec.ofInt 64 m % 1000#64).toNat < 1000 := umod_lt _ 1000#64 (by decide)
  obtain ⟨k, hk, hk1, hk2⟩ : ∃ k : Nat, 1 + (BitVec.ofInt 64 m % 1000#64).toNat = k ∧ 1 ≤ k ∧ k ≤ 1000 := ⟨_, rfl, by omega, by omega⟩
  refine spec_walk (n := 111) Try.func17 rfl rfl rfl (fun w0 hpre => ?_)
  refine gc_seq ?_
  refine gc_region ?_
  refine gl_cons (gs_box rfl rfl rfl rfl (fun b3 => ?_))
  refine gl_cons (gs_val (val_assign rfl) rfl rfl rfl ?_)
  refine gl_nil ?_
  refine gk_seq ?_
  refine gc_seq ?_
  refine gc_region ?_
  refine gl_cons (gs_val (val_loadA kag110 rfl (sees_mem (by repeat (first | exact .head _ | refine .tail _ ?_ | refine List.mem_append_right _ ?_))) rfl rfl) rfl rfl rfl ?_)
  refine gl_cons (gs_makes (enters kcall57 (.cons rfl .nil)) (begin52_spec x y p q hp hq) rfl rfl rfl (fun _ _ => trivial) (fun ⟨bg, rb, rc, rN⟩ hr => ?_))
  refine gl_cons (gs_val (val_move rfl) rfl rfl rfl ?_)
  refine gl_cons (gs_val (val_extract rfl rfl) rfl rfl rfl ?_)
  refine gl_cons (gs_val (val_extract rfl rfl) rfl rfl rfl ?_)
  refine gl_cons (gs_alloc kze115 rfl rfl rfl (fun b8 => ?_))
  refine gl_cons (gs_val (val_assign rfl) rfl rfl rfl ?_)
  refine gl_cons (gs_store ksz115 rfl rfl rfl rfl rfl rfl (by first | exact .head | exact .tail .head | exact .tail (.tail .head) | exact .tail (.tail (.tail .head)) | exact .tail (.tail (.tail (.tail .head))) | exact .tail (.tail (.tail (.tail (.tail .head))))) (by simp) (by first | ((with_reducible refine splice_all _ _ ?_); simp; done) | (simp only [splice, stL, digL, List.take_succ_cons, List.take_zero, List.drop_succ_cons, List.drop_zero, List.length_cons, List.length_nil, Nat.reduceAdd, Nat.reduceMul, Nat.zero_add, Nat.zero_mul, List.cons_append, List.nil_append]; exact rfl)) ?_)
  refine gl_nil ?_
  refine gk_seq ?_
  refine gc_seq ?_
  refine gc_seq ?_
  refine gc_region ?_
  refine gl_cons (gs_val (val_move rfl) rfl rfl rfl ?_)
  refine gl_cons (gs_val (val_eqlNil kun113 rfl rfl) rfl rfl rfl ?_)
  refine gl_cons (gs_val (val_move rfl) rfl rfl rfl ?_)
  refine gl_cons (gs_pure (enters kcall58 .nil) (told52_spec) rfl rfl rfl (fun _ _ => trivial) ?_)
  refine gl_cons (gs_val (val_not rfl) rfl rfl rfl ?_)
  refine gl_cons (gs_val (val_pick_f rfl rfl) rfl rfl rfl ?_)
  refine gl_nil ?_
  refine gk_seq ?_
  refine gc_false rfl ?_
  refine gc_skip ?_
  refine gk_seq ?_
  refine gc_seq ?_
  refine gc_region ?_
  refine gl_cons (gs_val (val_move rfl) rfl rfl rfl ?_)
  refine gl_cons (gs_val (val_conv64 rfl kis3 kun50) rfl rfl rfl ?_)
  refine gl_cons (gs_val (val_rem64 (j := 1000#64) rfl rfl rfl rfl (by decide)) rfl rfl rfl ?_)
  refine gl_cons (gs_val (val_convI rfl kis50 kun3 (by omega)) rfl rfl rfl ?_)
  refine gl_cons (gs_val (val_cast (v := I64 (k : Int)) (val_addI rfl rfl (by omega)) (congrArg I64 (by omega))) rfl rfl rfl ?_)
  refine gl_cons (gs_val (val_assign rfl) rfl rfl rfl ?_)
  refine gl_nil ?_
  refine gk_seq ?_
  refine gc_seq ?_
  refine gc_seq ?_
  refine gc_region ?_
  refine gl_cons (gs_val (val_move rfl) rfl rfl rfl ?_)
  refine gl_cons (gs_val (val_move rfl) rfl rfl rfl ?_)
  refine gl_cons (gs_buildSlice (zs := [.int .u8 0]) ksl54 kze5 rfl rfl (.cons rfl .nil) (.cons rfl rfl rfl (by simp) (by first | ((with_reducible refine splice_all _ _ ?_); simp; done) | (simp only [splice, stL, digL, List.take_succ_cons, List.take_zero, List.drop_succ_cons, List.drop_zero, List.length_cons, List.length_nil, Nat.reduceAdd, Nat.reduceMul, Nat.zero_add, Nat.zero_mul, List.cons_append, List.nil_append]; exact rfl)) .nil) rfl rfl (fun b33 => ?_))
  refine gl_cons (gs_turns (enters kcall60 (.cons rfl (.cons rfl (.cons rfl .nil)))) (note_okf bg 516#64 p q 0 0 0#64 0 nilS (List.replicate 16 (-1 : Int)) (k : Int) (some ⟨b33, 0, none⟩) 1 1 [1] rfl (by omega) (by decide) (by decide)) rfl rfl rfl (.tail (.tail (.cons .head .nil))) (row_apart (by first | exact .one (by repeat (first | exact .head _ | refine .tail _ ?_ | refine List.mem_append_right _ ?_)) | exact .two (by repeat (first | exact .head _ | refine .tail _ ?_ | refine List.mem_append_right _ ?_)) | exact .tail (.one (by repeat (first | exact .head _ | refine .tail _ ?_ | refine List.mem_append_right _ ?_))) | exact .tail (.two (by repeat (first | exact .head _ | refine .tail _ ?_ | refine List.mem_append_right _ ?_))) | exact .tail (.tail (.one (by repeat (first | exact .head _ | refine .tail _ ?_ | refine List.mem_append_right _ ?_)))) | exact .tail (.tail (.two (by repeat (first | exact .head _ | refine .tail _ ?_ | refine List.mem_append_right _ ?_)))) | exact .tail (.tail (.tail (.one (by repeat (first | exact .head _ | refine .tail _ ?_ | refine List.mem_append_right _ ?_))))) | exact .tail (.tail (.tail (.two (by repeat (first | exact .head _ | refine .tail _ ?_ | refine List.mem_append_right _ ?_))))))) (fun ⟨xb, xc, xN, xe⟩ hx => ?_))
  refine gl_cons (gs_val (val_neq rfl rfl) rfl rfl rfl ?_)
  refine gl_nil ?_
  refine gk_seq ?_
  refine gc_false rfl ?_
  refine gc_skip ?_
  refine gk_seq ?_
  refine gc_seq ?_
  refine gc_region ?_
  refine gl_cons (gs_val (val_assign rfl) rfl rfl rfl ?_)
  refine gl_nil ?_
  refine gk_seq ?_
  refine gc_seq ?_
  refine gc_region ?_
  refine gl_cons (gs_val (val_assign rfl) rfl rfl rfl ?_)
  refine gl_nil ?_
  refine gk_seq ?_
  refine gc_seq ?_
  refine gc_seq ?_
  refine gc_region ?_
  refine gl_cons (gs_val (val_assign rfl) rfl rfl rfl ?_)
  refine gl_nil ?_
  refine gk_seq ?_
  refine gc_block ?_
  rw [sdW_zero (k : Int) l]
  refine gc_loop (σ := Nat × Option Addr × Nat × List Ent) (I := fun v => v.1 ≤ p ∧ Own 3 1 v.2.1 (dueW l v.1).length v.2.2.1 ((dueW l v.1).map NV) v.2.2.2) (μ := fun v => p - v.1) (EI := fun v => [(10, .slice v.2.1 (dueW l v.1).length v.2.2.1), (11, NV (v.1 - (dueW l v.1).length)), (12, I64 (v.1 : Int)), (1, .slice ba n cap), (7, .pointer (some ⟨bg, 0, none⟩)), (8, .pointer (some ⟨b8, 0, none⟩)), (9, I64 (k : Int))]) (LI := fun v => ⟨bg, .cells (gdL 516#64 p q 0 0 true (hintW 516#64) (k : Int) (.slice xb (sealL (keyW 516#64) [1]).length xc) (sdW (k : Int) l v.1)).toArray 200 (0, 0)⟩ :: ⟨b8, .cells (rgL (p : Int) (q : Int) (-1) ⟨#[]⟩ (.slice rb p rc) false 0 0).toArray 115 (0, 0)⟩ :: v.2.2.2) (0, none, 0, []) ?_ ?_ ?_ ?_
  · exact ⟨Nat.zero_le _, .nil⟩
  · exact (.cons rfl (.cons rfl (.cons rfl (.cons rfl (.cons rfl (.cons rfl (.cons rfl .nil)))))))
  · exact fun _ h => h.sub (List.Sublist.cons_cons _ ((List.Sublist.cons _ (List.Sublist.cons_cons _ (List.nil_sublist _))).trans (List.sublist_append_right _ _)))
  · intro ⟨i, ba', c', N⟩ ⟨hjn, hown⟩
    dsimp only
    have hjn : i ≤ p := hjn
    have hown : Own 3 1 ba' (dueW l i).length c' ((dueW l i).map NV) N := hown
    refine gc_seq ?_
    refine gc_seq ?_
    refine gc_region ?_
    refine gl_cons (gs_val (val_move rfl) rfl rfl rfl ?_)
    refine gl_cons (gs_val (val_fieldAddr kfo115_0 rfl) rfl rfl rfl ?_)
    refine gl_cons (gs_val (val_load1 kag3 rfl (sees_mem (by repeat (first | exact .head _ | refine .tail _ ?_ | refine List.mem_append_right _ ?_))) rfl) rfl rfl rfl ?_)
    refine gl_cons (gs_val (val_lss rfl rfl) rfl rfl rfl ?_)
    refine gl_nil ?_
    refine gk_seq ?_
    refine gc_if rfl (fun hip => ?_) (fun hip => ?_)
    · have hip : i < p := by omega
      have hdl := dueW_len l i
      refine gc_skip ?_
      refine gk_seq ?_
      refine gc_seq ?_
      refine gc_block ?_
      refine gc_seq ?_
      refine gc_region ?_
      refine gl_cons (gs_val (val_move rfl) rfl rfl rfl ?_)
      refine gl_cons (gs_val (val_move rfl) rfl rfl rfl ?_)
      refine gl_cons (gs_val (val_lenSli ksl55 rfl) rfl rfl rfl ?_)
      refine gl_cons (gs_val (val_lss rfl rfl) rfl rfl rfl ?_)
      refine gl_cons (gs_val (val_move rfl) rfl rfl rfl ?_)
      refine gx_split 46 rfl (fun h46 => ?_) (fun h46 => ?_)
      · have hil : i < l.length := by omega
        refine gl_cons (gs_val (val_move rfl) rfl rfl rfl ?_)
        refine gl_cons (gs_val (val_move rfl) rfl rfl rfl ?_)
        refine gl_cons (gs_val (val_indexSli (m := i) ksl55 rfl rfl (by omega) (by omega) (sees_row hpre) (by (try simp only [List.length_map, Nat.mul_one, dig_len, inc_len, List.length_append, List.length_cons, List.length_nil, List.length_replicate]); omega)) rfl rfl rfl ?_)
        refine gl_cons (gs_val (val_cast (v := .bool (decide (l[i] = true))) (val_load1 kag4 rfl ((sees_row hpre).elem hil) rfl) (congrArg Value.bool Bool.decide_eq_true.symm)) rfl rfl rfl ?_)
        refine gl_cons (gs_val (val_pick_t rfl rfl) rfl rfl rfl ?_)
        refine gl_nil ?_
        refine gk_seq ?_
        refine gc_if rfl (fun h51 => ?_) (fun h51 => ?_)
        · have hg : l.getD i false = true := (getD_lt hil).trans h51
          have hst := dueW_in l i hg
          refine gc_seq ?_
          refine gc_seq ?_
          refine gc_region ?_
          refine gl_cons (gs_val (val_move rfl) rfl rfl rfl ?_)
          refine gl_cons (gs_val (val_move rfl) rfl rfl rfl ?_)
          refine gl_cons (gs_val (val_move rfl) rfl rfl rfl ?_)
          refine gl_cons (gs_mods (enters kcall63 (.cons rfl (.cons rfl (.cons rfl .nil)))) (ack_ok bg 516#64 p q 0 0 true (hintW 516#64) (k : Int) (.slice xb (sealL (keyW 516#64) [1]).length xc) (sdW (k : Int) l i) i (k : Int) hip rfl (Int.le_refl _) (sdW_len _ _ _) h2 (by rw [sdW_get, if_neg (fun e => absurd e.1 (Nat.lt_irrefl _))]; omega)) rfl rfl rfl (by first | exact .head | exact .tail .head | exact .tail (.tail .head) | exact .tail (.tail (.tail .head)) | exact .tail (.tail (.tail (.tail .head))) | exact .tail (.tail (.tail (.tail (.tail .head))))) (fun _ _ => trivial) ?_)
          rw [sdW_in (k : Int) l i hg]
          refine gl_cons (gs_val (val_neq rfl rfl) rfl rfl rfl ?_)
          refine gl_cons (gs_val (val_move rfl) rfl rfl rfl ?_)
          refine gl_cons (gs_val (val_move rfl) rfl rfl rfl ?_)
          refine gl_cons (gs_val (val_move rfl) rfl rfl rfl ?_)
          refine gl_cons (gs_val (val_move rfl) rfl rfl rfl ?_)
          refine gl_cons (gs_pure (enters kcall63 (.cons rfl (.cons rfl (.cons rfl .nil)))) (ack_old bg 516#64 p q 0 0 true (hintW 516#64) (k : Int) (.slice xb (sealL (keyW 516#64) [1]).length xc) (sdW (k : Int) l (i + 1)) i (k : Int) hip rfl (Int.le_refl _) (sdW_len _ _ _) h2 (by rw [sdW_get, if_pos ⟨Nat.lt_succ_self _, hg⟩]; exact Int.le_refl _)) rfl rfl rfl (row_of_sees (sees_all (by repeat (first | exact .head _ | refine .tail _ ?_ | refine List.mem_append_right _ ?_)))) ?_)
          refine gl_cons (gs_val (val_neq rfl rfl) rfl rfl rfl ?_)
          refine gl_cons (gs_val (val_pick_f rfl rfl) rfl rfl rfl ?_)
          refine gl_nil ?_
          refine gk_seq ?_
          refine gc_false rfl ?_
          refine gc_skip ?_
          refine gk_seq ?_
          refine gc_region ?_
          refine gl_cons (gs_val (val_move rfl) rfl rfl rfl ?_)
          refine gl_cons (gs_val (val_addI rfl rfl (by omega)) rfl rfl rfl ?_)
          refine gl_cons (gs_val (val_assign rfl) rfl rfl rfl ?_)
          refine gl_nil ?_
          refine gk_block ?_
          refine gk_seq ?_
          refine gc_region ?_
          refine gl_cons (gs_val (val_move rfl) rfl rfl rfl ?_)
          refine gl_cons (gs_val (val_addI rfl rfl (by omega)) rfl rfl rfl ?_)
          refine gl_cons (gs_val (val_assign rfl) rfl rfl rfl ?_)
          refine gl_nil ?_
          first | refine gk_again (i + 1, ba69, c69, N69) ?_ ?_ ?_ ?_ | refine gk_again (i + 1, ba', c', N) ?_ ?_ ?_ ?_
          · first | exact ⟨by show i + 1 ≤ p; omega, by show Own 3 1 ba69 (dueW l (i + 1)).length c69 ((dueW l (i + 1)).map NV) N69; rw [hst, List.map_append, List.length_append]; exact hown69⟩ | exact ⟨by show i + 1 ≤ p; omega, by show Own 3 1 ba' (dueW l (i + 1)).length c' ((dueW l (i + 1)).map NV) N; rw [hst]; exact hown⟩
          · show p - (i + 1) < p - i; omega
          · first | (refine .cons (congrArg (fun z => some (Value.slice ba69 z c69)) (by rw [hst, List.length_append]; rfl : (dueW l i).length + 1 = (dueW l (i + 1)).length)) (.cons (congrArg (fun z => some (I64 z)) (by show ((i - (dueW l i).length : Nat) : Int) = ((i + 1 - (dueW l (i + 1)).length : Nat) : Int); rw [hst, List.length_append, List.length_singleton]; omega)) ?_); repeat (first | exact .nil | refine .cons rfl ?_)) | (refine .cons (congrArg (fun z => some (Value.slice ba' z c')) (by rw [hst] : (dueW l i).length = (dueW l (i + 1)).length)) (.cons (congrArg (fun z => some (I64 z)) (by show ((i - (dueW l i).length : Nat) : Int) + 1 = ((i + 1 - (dueW l (i + 1)).length : Nat) : Int); rw [hst]; omega)) ?_); repeat (first | exact .nil | refine .cons rfl ?_))
          · first | (show ∀ w, _ → Inv _ _ (⟨bg, .cells (gdL 516#64 p q 0 0 true (hintW 516#64) (k : Int) (.slice xb (sealL (keyW 516#64) [1]).length xc) (sdW (k : Int) l (i + 1))).toArray 200 (0, 0)⟩ :: _ :: N69) w; rw [← hso]; exact fun _ h => h.sub (List.sublist_cons_self _ _)) | exact fun _ h => h
        · have hg : ¬ l.getD i false = true := by rw [getD_lt hil]; exact h51
          have hst := dueW_out l i hg
          have hso := sdW_out (k : Int) l i hg
          refine gc_region ?_
          refine gl_cons (gs_val (val_move rfl) rfl rfl rfl ?_)
          refine gl_cons (gs_val (val_move rfl) rfl rfl rfl ?_)
          refine gl_cons (gs_buildSlice (zs := [.int .i64 0]) ksl22 kze3 rfl rfl (.cons rfl .nil) (.cons rfl rfl rfl (by simp) (by first | ((with_reducible refine splice_all _ _ ?_); simp; done) | (simp only [splice, stL, digL, List.take_succ_cons, List.take_zero, List.drop_succ_cons, List.drop_zero, List.length_cons, List.length_nil, Nat.reduceAdd, Nat.reduceMul, Nat.zero_add, Nat.zero_mul, List.cons_append, List.nil_append]; exact rfl)) .nil) rfl rfl (fun b68 => ?_))
          refine gl_cons (gs_append ksl22 kze3 rfl rfl rfl rfl rfl rfl (hown) (fun _ => by first | exact .here | exact .headR | exact .app | exact .tail .here | exact .tail .headR | exact .tail .app | exact .tail (.tail .here) | exact .tail (.tail .headR) | exact .tail (.tail .app) | exact .tail (.tail (.tail .here)) | exact .tail (.tail (.tail .headR)) | exact .tail (.tail (.tail .app)) | exact .tail (.tail (.tail (.tail .here))) | exact .tail (.tail (.tail (.tail .headR))) | exact .tail (.tail (.tail (.tail .app))) | exact .tail (.tail (.tail (.tail (.tail .here)))) | exact .tail (.tail (.tail (.tail (.tail .headR)))) | exact .tail (.tail (.tail (.tail (.tail .app)))) | exact .appr .here | exact .appr .headR | exact .appr .app | exact .tail (.appr .here) | exact .tail (.appr .headR) | exact .tail (.appr .app) | exact .tail (.tail (.appr .here)) | exact .tail (.tail (.appr .headR)) | exact .tail (.tail (.appr .app)) | exact .appr (.tail .here) | exact .appr (.tail .headR) | exact .appr (.tail .app) | exact .appr (.tail (.tail .here)) | exact .appr (.tail (.tail .headR)) | exact .appr (.tail (.tail .app)) | exact .appr (.appr .here) | exact .appr (.appr .headR) | exact .appr (.appr .app) | exact .tail (.appr (.appr .here)) | exact .tail (.appr (.appr .headR)) | exact .tail (.appr (.appr .app)) | exact .appr (.appr (.tail .here)) | exact .appr (.appr (.tail .headR)) | exact .appr (.appr (.tail .app)) | exact .appr (.appr (.appr .here)) | exact .appr (.appr (.appr .headR)) | exact .appr (.appr (.appr .app))) (brings_slice ksl22 (sees_all (by repeat (first | exact .head _ | refine .tail _ ?_ | refine List.mem_append_right _ ?_))) rfl (one_map (f := I64) (fun _ => rfl) [(i : Int)])) (by omega) (fun ba69 c69 N69 hown69 => ?_))
          refine gl_cons (gs_val (val_assign rfl) rfl rfl rfl ?_)
          refine gl_nil ?_
          refine gk_block ?_
          refine gk_seq ?_
          refine gc_region ?_
          refine gl_cons (gs_val (val_move rfl) rfl rfl rfl ?_)
          refine gl_cons (gs_val (val_addI rfl rfl (by omega)) rfl rfl rfl ?_)
          refine gl_cons (gs_val (val_assign rfl) rfl rfl rfl ?_)
          refine gl_nil ?_
          first | refine gk_again (i + 1, ba69, c69, N69) ?_ ?_ ?_ ?_ | refine gk_again (i + 1, ba', c', N) ?_ ?_ ?_ ?_
          · first | exact ⟨by show i + 1 ≤ p; omega, by show Own 3 1 ba69 (dueW l (i + 1)).length c69 ((dueW l (i + 1)).map NV) N69; rw [hst, List.map_append, List.length_append]; exact hown69⟩ | exact ⟨by show i + 1 ≤ p; omega, by show Own 3 1 ba' (dueW l (i + 1)).length c' ((dueW l (i + 1)).map NV) N; rw [hst]; exact hown⟩
          · show p - (i + 1) < p - i; omega
          · first | (refine .cons (congrArg (fun z => some (Value.slice ba69 z c69)) (by rw [hst, List.length_append]; rfl : (dueW l i).length + 1 = (dueW l (i + 1)).length)) (.cons (congrArg (fun z => some (I64 z)) (by show ((i - (dueW l i).length : Nat) : Int) = ((i + 1 - (dueW l (i + 1)).length : Nat) : Int); rw [hst, List.length_append, List.length_singleton]; omega)) ?_); repeat (first | exact .nil | refine .cons rfl ?_)) | (refine .cons (congrArg (fun z => some (Value.slice ba' z c')) (by rw [hst] : (dueW l i).length = (dueW l (i + 1)).length)) (.cons (congrArg (fun z => some (I64 z)) (by show ((i - (dueW l i).length : Nat) : Int) + 1 = ((i + 1 - (dueW l (i + 1)).length : Nat) : Int); rw [hst]; omega)) ?_); repeat (first | exact .nil | refine .cons rfl ?_))
          · first | (show ∀ w, _ → Inv _ _ (⟨bg, .cells (gdL 516#64 p q 0 0 true (hintW 516#64) (k : Int) (.slice xb (sealL (keyW 516#64) [1]).length xc) (sdW (k : Int) l (i + 1))).toArray 200 (0, 0)⟩ :: _ :: N69) w; rw [← hso]; exact fun _ h => h.sub (List.sublist_cons_self _ _)) | exact fun _ h => h
      · have hg : ¬ l.getD i false = true := by rw [getD_ge (by omega)]; decide
        have hst := dueW_out l i hg
        have hso := sdW_out (k : Int) l i hg
        refine gl_cons (gs_skip rfl rfl rfl ?_)
        refine gl_cons (gs_skip rfl rfl rfl ?_)
        refine gl_cons (gs_skip rfl rfl rfl ?_)
        refine gl_cons (gs_skip rfl rfl rfl ?_)
        refine gl_cons (gs_val (val_pick_f rfl rfl) rfl rfl rfl ?_)
        refine gl_nil ?_
        refine gk_seq ?_
        refine gc_false rfl ?_
        refine gc_region ?_
        refine gl_cons (gs_val (val_move rfl) rfl rfl rfl ?_)
        refine gl_cons (gs_val (val_move rfl) rfl rfl rfl ?_)
        refine gl_cons (gs_buildSlice (zs := [.int .i64 0]) ksl22 kze3 rfl rfl (.cons rfl .nil) (.cons rfl rfl rfl (by simp) (by first | ((with_reducible refine splice_all _ _ ?_); simp; done) | (simp only [splice, stL, digL, List.take_succ_cons, List.take_zero, List.drop_succ_cons, List.drop_zero, List.length_cons, List.length_nil, Nat.reduceAdd, Nat.reduceMul, Nat.zero_add, Nat.zero_mul, List.cons_append, List.nil_append]; exact rfl)) .nil) rfl rfl (fun b68 => ?_))
        refine gl_cons (gs_append ksl22 kze3 rfl rfl rfl rfl rfl rfl (hown) (fun _ => by first | exact .here | exact .headR | exact .app | exact .tail .here | exact .tail .headR | exact .tail .app | exact .tail (.tail .here) | exact .tail (.tail .headR) | exact .tail (.tail .app) | exact .tail (.tail (.tail .here)) | exact .tail (.tail (.tail .headR)) | exact .tail (.tail (.tail .app)) | exact .tail (.tail (.tail (.tail .here))) | exact .tail (.tail (.tail (.tail .headR))) | exact .tail (.tail (.tail (.tail .app))) | exact .tail (.tail (.tail (.tail (.tail .here)))) | exact .tail (.tail (.tail (.tail (.tail .headR)))) | exact .tail (.tail (.tail (.tail (.tail .app)))) | exact .appr .here | exact .appr .headR | exact .appr .app | exact .tail (.appr .here) | exact .tail (.appr .headR) | exact .tail (.appr .app) | exact .tail (.tail (.appr .here)) | exact .tail (.tail (.appr .headR)) | exact .tail (.tail (.appr .app)) | exact .appr (.tail .here) | exact .appr (.tail .headR) | exact .appr (.tail .app) | exact .appr (.tail (.tail .here)) | exact .appr (.tail (.tail .headR)) | exact .appr (.tail (.tail .app)) | exact .appr (.appr .here) | exact .appr (.appr .headR) | exact .appr (.appr .app) | exact .tail (.appr (.appr .here)) | exact .tail (.appr (.appr .headR)) | exact .tail (.appr (.appr .app)) | exact .appr (.appr (.tail .here)) | exact .appr (.appr (.tail .headR)) | exact .appr (.appr (.tail .app)) | exact .appr (.appr (.appr .here)) | exact .appr (.appr (.appr .headR)) | exact .appr (.appr (.appr .app))) (brings_slice ksl22 (sees_all (by repeat (first | exact .head _ | refine .tail _ ?_ | refine List.mem_append_right _ ?_))) rfl (one_map (f := I64) (fun _ => rfl) [(i : Int)])) (by omega) (fun ba69 c69 N69 hown69 => ?_))
        refine gl_cons (gs_val (val_assign rfl) rfl rfl rfl ?_)
        refine gl_nil ?_
        refine gk_block ?_
        refine gk_seq ?_
        refine gc_region ?_
        refine gl_cons (gs_val (val_move rfl) rfl rfl rfl ?_)
        refine gl_cons (gs_val (val_addI rfl rfl (by omega)) rfl rfl rfl ?_)
        refine gl_cons (gs_val (val_assign rfl) rfl rfl rfl ?_)
        refine gl_nil ?_
        first | refine gk_again (i + 1, ba69, c69, N69) ?_ ?_ ?_ ?_ | refine gk_again (i + 1, ba', c', N) ?_ ?_ ?_ ?_
        · first | exact ⟨by show i + 1 ≤ p; omega, by show Own 3 1 ba69 (dueW l (i + 1)).length c69 ((dueW l (i + 1)).map NV) N69; rw [hst, List.map_append, List.length_append]; exact hown69⟩ | exact ⟨by show i + 1 ≤ p; omega, by show Own 3 1 ba' (dueW l (i + 1)).length c' ((dueW l (i + 1)).map NV) N; rw [hst]; exact hown⟩
        · show p - (i + 1) < p - i; omega
        · first | (refine .cons (congrArg (fun z => some (Value.slice ba69 z c69)) (by rw [hst, List.length_append]; rfl : (dueW l i).length + 1 = (dueW l (i + 1)).length)) (.cons (congrArg (fun z => some (I64 z)) (by show ((i - (dueW l i).length : Nat) : Int) = ((i + 1 - (dueW l (i + 1)).length : Nat) : Int); rw [hst, List.length_append, List.length_singleton]; omega)) ?_); repeat (first | exact .nil | refine .cons rfl ?_)) | (refine .cons (congrArg (fun z => some (Value.slice ba' z c')) (by rw [hst] : (dueW l i).length = (dueW l (i + 1)).length)) (.cons (congrArg (fun z => some (I64 z)) (by show ((i - (dueW l i).length : Nat) : Int) + 1 = ((i + 1 - (dueW l (i + 1)).length : Nat) : Int); rw [hst]; omega)) ?_); repeat (first | exact .nil | refine .cons rfl ?_))
        · first | (show ∀ w, _ → Inv _ _ (⟨bg, .cells (gdL 516#64 p q 0 0 true (hintW 516#64) (k : Int) (.slice xb (sealL (keyW 516#64) [1]).length xc) (sdW (k : Int) l (i + 1))).toArray 200 (0, 0)⟩ :: _ :: N69) w; rw [← hso]; exact fun _ h => h.sub (List.sublist_cons_self _ _)) | exact fun _ h => h
    · obtain rfl : p = i := by omega
      refine gc_exit ?_
      refine gk_seq_exit ?_
      refine gk_loop_exit ?_
      refine gk_block_exit ?_
      refine gk_seq ?_
      refine gc_seq ?_
      refine gc_seq ?_
      refine ga_start (m := 14) (ls := [false, false, false, false, false, false, false, false, false, false, false, false, false, false]) kmixed rfl rfl ?_
      apply share3 (α := Option Addr) (β := Nat) (γ := List Ent) (m' := 0) (ls' := [true, true, true, true, true, true, true, true, true, true, true, true, true, true])
      · intro hD0
        refine ga_take (i := 0) (ls' := [true, false, false, false, false, false, false, false, false, false, false, false, false, false]) rfl (by kernel_rfl) rfl (fun _ _ _ => val_move rfl) rfl rfl rfl ?_
        refine ga_take (i := 2) (ls' := [true, false, true, false, false, false, false, false, false, false, false, false, false, false]) rfl (by kernel_rfl) rfl (fun _ _ _ => val_move rfl) rfl rfl rfl ?_
        refine ga_branch (rs := [1]) (by kernel_rfl) rfl (.cons (ls' := [true, true, true, false, false, false, false, false, false, false, false, false, false, false]) rfl rfl ?_ .nil)
        refine gs_makes (enters kcall61 (.cons rfl .nil)) (due_some bg 516#64 p q 0 0 true (hintW 516#64) (k : Int) (.slice xb (sealL (keyW 516#64) [1]).length xc) (sdW (k : Int) l p) rfl (sdW_len _ _ _) h2) rfl rfl rfl (row_of_sees (sees_all (by repeat (first | exact .head _ | refine .tail _ ?_ | refine List.mem_append_right _ ?_)))) (fun ⟨db, dc, dN⟩ hd => ?_)
        have hd' : Own 3 1 db (dueN true (k : Int) (sdW (k : Int) l p) p).length dc (((dueW l p).map fun (k : Nat) => (k : Int)).map I64) dN := by have := hd; rw [dueN_sdW _ _ _ h2 (by omega)] at this ⊢; rwa [map_NV] at this
        refine ga_branch (rs := [3]) (by kernel_rfl) rfl (.cons (ls' := [true, true, true, true, false, false, false, false, false, false, false, false, false, false]) rfl rfl ?_ .nil)
        refine gs_pure (enters kcall67 (.cons rfl (.cons rfl .nil))) (rsame52_yes db ba' (dueN true (k : Int) (sdW (k : Int) l p) p).length (dueW l p).length dc c' ((dueW l p).map fun (k : Nat) => (k : Int)) ((dueW l p).map fun (k : Nat) => (k : Int)) (by rw [dueN_sdW _ _ _ h2 (by omega), List.length_map]) (by rw [List.length_map]) (by have := due_len true (k : Int) (sdW (k : Int) l p) p; omega) rfl) rfl rfl rfl (fun w hi => ⟨row_of_sees (hd'.look (by repeat (first | exact .here | exact .headR | exact .app | refine .tail ?_ | refine .appr ?_))) w hi, row_of_sees ((hown.look (by repeat (first | exact .here | exact .headR | exact .app | refine .tail ?_ | refine .appr ?_))).cast (by rw [map_NV])) w hi⟩) ?_
        refine ga_take (i := 4) (ls' := [true, true, true, true, true, false, false, false, false, false, false, false, false, false]) rfl (by kernel_rfl) rfl (fun _ _ _ => val_not rfl) rfl rfl rfl ?_
        refine ga_take (i := 5) (ls' := [true, true, true, true, true, true, false, false, false, false, false, false, false, false]) rfl (by kernel_rfl) rfl (fun _ _ _ => val_move rfl) rfl rfl rfl ?_
        refine ga_take (i := 6) (ls' := [true, true, true, true, true, true, true, false, false, false, false, false, false, false]) rfl (by kernel_rfl) rfl (fun _ _ _ => val_move rfl) rfl rfl rfl ?_
        refine ga_take (i := 8) (ls' := [true, true, true, true, true, true, true, false, true, false, false, false, false, false]) rfl (by kernel_rfl) rfl (fun _ _ _ => val_move rfl) rfl rfl rfl ?_
        refine ga_take (i := 9) (ls' := [true, true, true, true, true, true, true, false, true, true, false, false, false, false]) rfl (by kernel_rfl) rfl (fun _ _ _ => val_fieldAddr kfo115_1 rfl) rfl rfl rfl ?_
        refine ga_branch (rs := [7, 10]) (by kernel_rfl) rfl (.cons (ls' := [true, true, true, true, true, true, true, true, true, true, false, false, false, false]) rfl rfl ?_ (.cons (ls' := [true, true, true, true, true, true, true, false, true, true, true, false, false, false]) rfl rfl ?_ .nil))
        · skip
          refine gs_pure (enters kcall64 (.cons rfl .nil)) (safe_spec bg 516#64 p q 0 0 true (hintW 516#64) (k : Int) (.slice xb (sealL (keyW 516#64) [1]).length xc) (sdW (k : Int) l p) (sdW_len _ _ _) h2) rfl rfl rfl (row_of_sees (sees_all (by repeat (first | exact .head _ | refine .tail _ ?_ | refine List.mem_append_right _ ?_)))) ?_
          refine ga_branch (rs := [10]) (by kernel_rfl) rfl (.cons (ls' := [true, true, true, true, true, true, true, true, true, true, true, false, false, false]) rfl rfl ?_ .nil)
          refine gs_val (val_load1 kag3 rfl (sees_mem (by repeat (first | exact .head _ | refine .tail _ ?_ | refine List.mem_append_right _ ?_))) rfl) rfl rfl rfl ?_
          refine ga_take (i := 11) (ls' := [true, true, true, true, true, true, true, true, true, true, true, true, false, false]) rfl (by kernel_rfl) rfl (fun _ _ _ => val_geq rfl rfl) rfl rfl rfl ?_
          refine ga_take (i := 12) (ls' := [true, true, true, true, true, true, true, true, true, true, true, true, true, false]) rfl (by kernel_rfl) rfl (fun _ _ _ => val_cast (v := .bool false) (val_neqB kun4 rfl rfl) (congrArg Value.bool (safe_many (k : Int) l p q h2 (by omega)))) rfl rfl rfl ?_
          refine ga_take (i := 13) (ls' := [true, true, true, true, true, true, true, true, true, true, true, true, true, true]) rfl (by kernel_rfl) rfl (fun _ _ _ => val_pick_f rfl rfl) rfl rfl rfl ?_
          refine gx_env (F := [(1, _), (7, _), (8, _), (9, _), (10, _), (11, _), (12, _), (36, _), (37, _), (38, _), (39, _), (70, _), (71, _), (72, _), (73, _), (74, _), (75, _), (76, _), (77, _), (78, _), (79, _), (80, _), (81, _), (82, _), (83, _)]) (.cons rfl (.cons rfl (.cons rfl (.cons rfl (.cons rfl (.cons rfl (.cons rfl (.cons rfl (.cons rfl (.cons rfl (.cons rfl (.cons rfl (.cons rfl (.cons rfl (.cons rfl (.cons rfl (.cons rfl (.cons rfl (.cons rfl (.cons rfl (.cons rfl (.cons rfl (.cons rfl (.cons rfl (.cons rfl .nil))))))))))))))))))))))))) (gx_perm (by first | exact .refl _ | (repeat (first | exact .refl _ | refine perm_take (by first | exact .head | exact .tail .head | exact .tail (.tail .head) | exact .tail (.tail (.tail .head)) | exact .tail (.tail (.tail (.tail .head))) | exact .tail (.tail (.tail (.tail (.tail .head))))) ?_))) (hD0 db dc dN (And.intro hd' True.intro)))
        · skip
          refine gs_val (val_load1 kag3 rfl (sees_mem (by repeat (first | exact .head _ | refine .tail _ ?_ | refine List.mem_append_right _ ?_))) rfl) rfl rfl rfl ?_
          refine ga_take (i := 11) (ls' := [true, true, true, true, true, true, true, false, true, true, true, true, false, false]) rfl (by kernel_rfl) rfl (fun _ _ _ => val_geq rfl rfl) rfl rfl rfl ?_
          refine ga_branch (rs := [7]) (by kernel_rfl) rfl (.cons (ls' := [true, true, true, true, true, true, true, true, true, true, true, true, false, false]) rfl rfl ?_ .nil)
          refine gs_pure (enters kcall64 (.cons rfl .nil)) (safe_spec bg 516#64 p q 0 0 true (hintW 516#64) (k : Int) (.slice xb (sealL (keyW 516#64) [1]).length xc) (sdW (k : Int) l p) (sdW_len _ _ _) h2) rfl rfl rfl (row_of_sees (sees_all (by repeat (first | exact .head _ | refine .tail _ ?_ | refine List.mem_append_right _ ?_)))) ?_
          refine ga_take (i := 12) (ls' := [true, true, true, true, true, true, true, true, true, true, true, true, true, false]) rfl (by kernel_rfl) rfl (fun _ _ _ => val_cast (v := .bool false) (val_neqB kun4 rfl rfl) (congrArg Value.bool (safe_many (k : Int) l p q h2 (by omega)))) rfl rfl rfl ?_
          refine ga_take (i := 13) (ls' := [true, true, true, true, true, true, true, true, true, true, true, true, true, true]) rfl (by kernel_rfl) rfl (fun _ _ _ => val_pick_f rfl rfl) rfl rfl rfl ?_
          refine gx_env (F := [(1, _), (7, _), (8, _), (9, _), (10, _), (11, _), (12, _), (36, _), (37, _), (38, _), (39, _), (70, _), (71, _), (72, _), (73, _), (74, _), (75, _), (76, _), (77, _), (78, _), (79, _), (80, _), (81, _), (82, _), (83, _)]) (.cons rfl (.cons rfl (.cons rfl (.cons rfl (.cons rfl (.cons rfl (.cons rfl (.cons rfl (.cons rfl (.cons rfl (.cons rfl (.cons rfl (.cons rfl (.cons rfl (.cons rfl (.cons rfl (.cons rfl (.cons rfl (.cons rfl (.cons rfl (.cons rfl (.cons rfl (.cons rfl (.cons rfl (.cons rfl .nil))))))))))))))))))))))))) (gx_perm (by first | exact .refl _ | (repeat (first | exact .refl _ | refine perm_take (by first | exact .head | exact .tail .head | exact .tail (.tail .head) | exact .tail (.tail (.tail .head)) | exact .tail (.tail (.tail (.tail .head))) | exact .tail (.tail (.tail (.tail (.tail .head))))) ?_))) (hD0 db dc dN (And.intro hd' True.intro)))
      · rintro db dc dN ⟨hd', _⟩
        refine ga_done (by kernel_rfl) ?_
        refine gk_seq ?_
        refine gc_false rfl ?_
        refine gc_skip ?_
        refine gk_seq ?_
        refine gc_seq ?_
        refine gc_region ?_
        refine gl_cons (gs_val (val_move rfl) rfl rfl rfl ?_)
        refine gl_cons (gs_val (val_move rfl) rfl rfl rfl ?_)
        refine gl_cons (gs_val (val_subI rfl rfl (by omega)) rfl rfl rfl ?_)
        refine gl_cons (gs_pure (enters kcall60 (.cons rfl (.cons rfl (.cons rfl .nil)))) (note_old bg 516#64 p q 0 0 true (hintW 516#64) (k : Int) (.slice xb (sealL (keyW 516#64) [1]).length xc) (sdW (k : Int) l p) ((k : Int) - 1) none 0 0 (by omega) rfl (by omega)) rfl rfl rfl (row_of_sees (sees_all (by repeat (first | exact .head _ | refine .tail _ ?_ | refine List.mem_append_right _ ?_)))) ?_)
        refine gl_cons (gs_val (val_move rfl) rfl rfl rfl ?_)
        refine gl_cons (gs_val (val_move rfl) rfl rfl rfl ?_)
        refine gl_cons (gs_val (val_addI rfl rfl (by omega)) rfl rfl rfl ?_)
        refine gl_cons (gs_turns (enters kcall60 (.cons rfl (.cons rfl (.cons rfl .nil)))) (note_okt bg 516#64 p q 0 0 (hintW 516#64) (k : Int) (.slice xb (sealL (keyW 516#64) [1]).length xc) (sdW (k : Int) l p) ((k : Int) + 1) none 0 0 [] rfl (by omega) (by omega) (by decide) (by decide)) rfl rfl rfl (.appr (.cons .head .nil)) (fun _ _ i v h => by simp at h) (fun ⟨yb, yc, yN, ye⟩ hy => ?_))
        refine gl_cons (gs_val (val_assign rfl) rfl rfl rfl ?_)
        refine gl_cons (gs_val (val_assign rfl) rfl rfl rfl ?_)
        refine gl_nil ?_
        refine gk_seq ?_
        refine gc_seq ?_
        refine ga_start (m := 20) (ls := [false, false, false, false, false, false, false, false, false, false, false, false, false, false, false, false, false, false, false, false]) kmixed rfl rfl ?_
        apply share3 (α := Option Addr) (β := Nat) (γ := List Ent) (m' := 4) (ls' := [true, true, true, true, true, true, true, true, true, true, true, true, true, true, true, true, false, false, false, false])
        · intro hD0
          refine ga_take (i := 0) (ls' := [true, false, false, false, false, false, false, false, false, false, false, false, false, false, false, false, false, false, false, false]) rfl (by kernel_rfl) rfl (fun _ _ _ => val_move rfl) rfl rfl rfl ?_
          refine ga_take (i := 1) (ls' := [true, true, false, false, false, false, false, false, false, false, false, false, false, false, false, false, false, false, false, false]) rfl (by kernel_rfl) rfl (fun _ _ _ => val_eql rfl rfl) rfl rfl rfl ?_
          refine ga_take (i := 2) (ls' := [true, true, true, false, false, false, false, false, false, false, false, false, false, false, false, false, false, false, false, false]) rfl (by kernel_rfl) rfl (fun _ _ _ => val_move rfl) rfl rfl rfl ?_
          refine ga_take (i := 3) (ls' := [true, true, true, true, false, false, false, false, false, false, false, false, false, false, false, false, false, false, false, false]) rfl (by kernel_rfl) rfl (fun _ _ _ => val_move rfl) rfl rfl rfl ?_
          refine ga_take (i := 4) (ls' := [true, true, true, true, true, false, false, false, false, false, false, false, false, false, false, false, false, false, false, false]) rfl (by kernel_rfl) rfl (fun _ _ _ => val_eql rfl rfl) rfl rfl rfl ?_
          refine ga_take (i := 5) (ls' := [true, true, true, true, true, true, false, false, false, false, false, false, false, false, false, false, false, false, false, false]) rfl (by kernel_rfl) rfl (fun _ _ _ => val_pick_t rfl rfl) rfl rfl rfl ?_
          refine ga_take (i := 6) (ls' := [true, true, true, true, true, true, true, false, false, false, false, false, false, false, false, false, false, false, false, false]) rfl (by kernel_rfl) rfl (fun _ _ _ => val_move rfl) rfl rfl rfl ?_
          refine ga_take (i := 7) (ls' := [true, true, true, true, true, true, true, true, false, false, false, false, false, false, false, false, false, false, false, false]) rfl (by kernel_rfl) rfl (fun _ _ _ => val_move rfl) rfl rfl rfl ?_
          refine ga_take (i := 10) (ls' := [true, true, true, true, true, true, true, true, false, false, true, false, false, false, false, false, false, false, false, false]) rfl (by kernel_rfl) rfl (fun _ _ _ => val_fieldAddr kfo115_0 rfl) rfl rfl rfl ?_
          refine ga_branch (rs := [8, 11]) (by kernel_rfl) rfl (.cons (ls' := [true, true, true, true, true, true, true, true, true, false, true, false, false, false, false, false, false, false, false, false]) rfl rfl ?_ (.cons (ls' := [true, true, true, true, true, true, true, true, false, false, true, true, false, false, false, false, false, false, false, false]) rfl rfl ?_ .nil))
          · skip
            refine gs_makes (enters kcall61 (.cons rfl .nil)) (due_some bg 516#64 p q 0 0 true (hintW 516#64) ((k : Int) + 1) (.slice yb (sealL (keyW 516#64) []).length yc) (sdW (k : Int) l p) rfl (sdW_len _ _ _) h2) rfl rfl rfl (row_of_sees (sees_all (by repeat (first | exact .head _ | refine .tail _ ?_ | refine List.mem_append_right _ ?_)))) (fun ⟨eb, ec, eN⟩ he => ?_)
            refine ga_take (i := 9) (ls' := [true, true, true, true, true, true, true, true, true, true, true, false, false, false, false, false, false, false, false, false]) rfl (by kernel_rfl) rfl (fun _ _ _ => val_lenSli ksl22 rfl) rfl rfl rfl ?_
            refine ga_branch (rs := [11]) (by kernel_rfl) rfl (.cons (ls' := [true, true, true, true, true, true, true, true, true, true, true, true, false, false, false, false, false, false, false, false]) rfl rfl ?_ .nil)
            refine gs_val (val_load1 kag3 rfl (sees_mem (by repeat (first | exact .head _ | refine .tail _ ?_ | refine List.mem_append_right _ ?_))) rfl) rfl rfl rfl ?_
            refine ga_take (i := 12) (ls' := [true, true, true, true, true, true, true, true, true, true, true, true, true, false, false, false, false, false, false, false]) rfl (by kernel_rfl) rfl (fun _ _ _ => val_yes (val_eql rfl rfl) (by rw [due_all _ _ _ p h2 (by omega)])) rfl rfl rfl ?_
            refine ga_take (i := 13) (ls' := [true, true, true, true, true, true, true, true, true, true, true, true, true, true, false, false, false, false, false, false]) rfl (by kernel_rfl) rfl (fun _ _ _ => val_pick_t rfl rfl) rfl rfl rfl ?_
            refine ga_take (i := 14) (ls' := [true, true, true, true, true, true, true, true, true, true, true, true, true, true, true, false, false, false, false, false]) rfl (by kernel_rfl) rfl (fun _ _ _ => val_move rfl) rfl rfl rfl ?_
            refine ga_take (i := 15) (ls' := [true, true, true, true, true, true, true, true, true, true, true, true, true, true, true, true, false, false, false, false]) rfl (by kernel_rfl) rfl (fun _ _ _ => val_move rfl) rfl rfl rfl ?_
            refine gx_env (F := [(1, _), (7, _), (8, _), (9, _), (10, _), (11, _), (12, _), (13, _), (14, _), (36, _), (37, _), (38, _), (39, _), (70, _), (71, _), (72, _), (73, _), (74, _), (75, _), (76, _), (77, _), (78, _), (79, _), (80, _), (81, _), (82, _), (83, _), (84, _), (85, _), (86, _), (87, _), (88, _), (89, _), (90, _), (91, _), (92, _), (93, _), (94, _), (95, _), (96, _), (97, _), (98, _), (99, _), (100, _), (101, _), (102, _), (103, _), (104, _), (105, _), (106, _), (107, _)]) (.cons rfl (.cons rfl (.cons rfl (.cons rfl (.cons rfl (.cons rfl (.cons rfl (.cons rfl (.cons rfl (.cons rfl (.cons rfl (.cons rfl (.cons rfl (.cons rfl (.cons rfl (.cons rfl (.cons rfl (.cons rfl (.cons rfl (.cons rfl (.cons rfl (.cons rfl (.cons rfl (.cons rfl (.cons rfl (.cons rfl (.cons rfl (.cons rfl (.cons rfl (.cons rfl (.cons rfl (.cons rfl (.cons rfl (.cons rfl (.cons rfl (.cons rfl (.cons rfl (.cons rfl (.cons rfl (.cons rfl (.cons rfl (.cons rfl (.cons rfl (.cons rfl (.cons rfl (.cons rfl (.cons rfl (.cons rfl (.cons rfl (.cons rfl (.cons rfl .nil))))))))))))))))))))))))))))))))))))))))))))))))))) (gx_perm (by first | exact .refl _ | (repeat (first | exact .refl _ | refine perm_take (by first | exact .head | exact .tail .head | exact .tail (.tail .head) | exact .tail (.tail (.tail .head)) | exact .tail (.tail (.tail (.tail .head))) | exact .tail (.tail (.tail (.tail (.tail .head))))) ?_))) (hD0 eb ec eN True.intro))
          · skip
            refine gs_val (val_load1 kag3 rfl (sees_mem (by repeat (first | exact .head _ | refine .tail _ ?_ | refine List.mem_append_right _ ?_))) rfl) rfl rfl rfl ?_
            refine ga_branch (rs := [8]) (by kernel_rfl) rfl (.cons (ls' := [true, true, true, true, true, true, true, true, true, false, true, true, false, false, false, false, false, false, false, false]) rfl rfl ?_ .nil)
            refine gs_makes (enters kcall61 (.cons rfl .nil)) (due_some bg 516#64 p q 0 0 true (hintW 516#64) ((k : Int) + 1) (.slice yb (sealL (keyW 516#64) []).length yc) (sdW (k : Int) l p) rfl (sdW_len _ _ _) h2) rfl rfl rfl (row_of_sees (sees_all (by repeat (first | exact .head _ | refine .tail _ ?_ | refine List.mem_append_right _ ?_)))) (fun ⟨eb, ec, eN⟩ he => ?_)
            refine ga_take (i := 9) (ls' := [true, true, true, true, true, true, true, true, true, true, true, true, false, false, false, false, false, false, false, false]) rfl (by kernel_rfl) rfl (fun _ _ _ => val_lenSli ksl22 rfl) rfl rfl rfl ?_
            refine ga_take (i := 12) (ls' := [true, true, true, true, true, true, true, true, true, true, true, true, true, false, false, false, false, false, false, false]) rfl (by kernel_rfl) rfl (fun _ _ _ => val_yes (val_eql rfl rfl) (by rw [due_all _ _ _ p h2 (by omega)])) rfl rfl rfl ?_
            refine ga_take (i := 13) (ls' := [true, true, true, true, true, true, true, true, true, true, true, true, true, true, false, false, false, false, false, false]) rfl (by kernel_rfl) rfl (fun _ _ _ => val_pick_t rfl rfl) rfl rfl rfl ?_
            refine ga_take (i := 14) (ls' := [true, true, true, true, true, true, true, true, true, true, true, true, true, true, true, false, false, false, false, false]) rfl (by kernel_rfl) rfl (fun _ _ _ => val_move rfl) rfl rfl rfl ?_
            refine ga_take (i := 15) (ls' := [true, true, true, true, true, true, true, true, true, true, true, true, true, true, true, true, false, false, false, false]) rfl (by kernel_rfl) rfl (fun _ _ _ => val_move rfl) rfl rfl rfl ?_
            refine gx_env (F := [(1, _), (7, _), (8, _), (9, _), (10, _), (11, _), (12, _), (13, _), (14, _), (36, _), (37, _), (38, _), (39, _), (70, _), (71, _), (72, _), (73, _), (74, _), (75, _), (76, _), (77, _), (78, _), (79, _), (80, _), (81, _), (82, _), (83, _), (84, _), (85, _), (86, _), (87, _), (88, _), (89, _), (90, _), (91, _), (92, _), (93, _), (94, _), (95, _), (96, _), (97, _), (98, _), (99, _), (100, _), (101, _), (102, _), (103, _), (104, _), (105, _), (106, _), (107, _)]) (.cons rfl (.cons rfl (.cons rfl (.cons rfl (.cons rfl (.cons rfl (.cons rfl (.cons rfl (.cons rfl (.cons rfl (.cons rfl (.cons rfl (.cons rfl (.cons rfl (.cons rfl (.cons rfl (.cons rfl (.cons rfl (.cons rfl (.cons rfl (.cons rfl (.cons rfl (.cons rfl (.cons rfl (.cons rfl (.cons rfl (.cons rfl (.cons rfl (.cons rfl (.cons rfl (.cons rfl (.cons rfl (.cons rfl (.cons rfl (.cons rfl (.cons rfl (.cons rfl (.cons rfl (.cons rfl (.cons rfl (.cons rfl (.cons rfl (.cons rfl (.cons rfl (.cons rfl (.cons rfl (.cons rfl (.cons rfl (.cons rfl (.cons rfl (.cons rfl .nil))))))))))))))))))))))))))))))))))))))))))))))))))) (gx_perm (by first | exact .refl _ | (repeat (first | exact .refl _ | refine perm_take (by first | exact .head | exact .tail .head | exact .tail (.tail .head) | exact .tail (.tail (.tail .head)) | exact .tail (.tail (.tail (.tail .head))) | exact .tail (.tail (.tail (.tail (.tail .head))))) ?_))) (hD0 eb ec eN True.intro))
        · rintro eb ec eN _
          refine ga_branch (rs := [16]) (by kernel_rfl) rfl (.cons (ls' := [true, true, true, true, true, true, true, true, true, true, true, true, true, true, true, true, true, false, false, false]) rfl rfl ?_ .nil)
          refine gs_pure (enters kcall64 (.cons rfl .nil)) (safe_no bg 516#64 p q 0 0 true (hintW 516#64) ((k : Int) + 1) (.slice yb (sealL (keyW 516#64) []).length yc) (sdW (k : Int) l p) (sdW_len _ _ _) h2 (safe_late _ _ _ _ h2 (by omega) h3)) rfl rfl rfl (row_of_sees (sees_all (by repeat (first | exact .head _ | refine .tail _ ?_ | refine List.mem_append_right _ ?_)))) ?_
          refine ga_take (i := 17) (ls' := [true, true, true, true, true, true, true, true, true, true, true, true, true, true, true, true, true, true, false, false]) rfl (by kernel_rfl) rfl (fun _ _ _ => val_not rfl) rfl rfl rfl ?_
          refine ga_take (i := 18) (ls' := [true, true, true, true, true, true, true, true, true, true, true, true, true, true, true, true, true, true, true, false]) rfl (by kernel_rfl) rfl (fun _ _ _ => val_pick_t rfl rfl) rfl rfl rfl ?_
          refine ga_take (i := 19) (ls' := [true, true, true, true, true, true, true, true, true, true, true, true, true, true, true, true, true, true, true, true]) rfl (by kernel_rfl) rfl (fun _ _ _ => val_assign rfl) rfl rfl rfl ?_
          refine ga_done (by kernel_rfl) ?_
          refine gk_seq ?_
          refine gc_ret ?_
          refine gk_ret rfl (resv_tmp rfl .nil) (List.nil_sublist _) ?_
          exact ⟨rfl, rfl⟩

end Go.Proofs.Ytddckbhlfeegoaa
