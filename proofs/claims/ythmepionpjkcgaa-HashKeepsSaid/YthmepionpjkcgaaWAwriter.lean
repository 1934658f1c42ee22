/- The walk of functions of the program: what each computes, for every input. -/
import Derived.Test.YthmepionpjkcgaaWAFacts
import Derived.Test.YthmepionpjkcgaaWAhash
namespace Go.Proofs.Ythmepionpjkcgaa
open Go Go.Eng
set_option linter.unusedVariables false
set_option linter.unusedSimpArgs false

/-- slices.Equal[[]byte,byte] -/
theorem equal_spec (ba bb : Option Addr) (n m c d : Nat) (l r : List UInt8) (hn : l.length = n) (hm : r.length = m) (hl : n ≤ 281474976710656) (hr : m ≤ 281474976710656) : Pure Try.prog 118 ([.slice ba n c, .slice bb m d]).toArray (fun w => Row w [] ba (l.map U8) ∧ Row w [] bb (r.map U8)) (.bool (decide (l = r))) := by
  subst hn
  subst hm
  refine spec_walk (n := 26) Try.func118 rfl rfl rfl (fun w0 hpre => ?_)
  refine gc_seq ?_
  refine gc_region ?_
  refine gl_cons (gs_val (val_assign rfl) rfl rfl rfl ?_)
  refine gl_nil ?_
  refine gk_seq ?_
  refine gc_seq ?_
  refine gc_seq ?_
  refine gc_region ?_
  refine gl_cons (gs_val (val_move rfl) rfl rfl rfl ?_)
  refine gl_cons (gs_val (val_lenSli ksl37 rfl) rfl rfl rfl ?_)
  refine gl_cons (gs_val (val_move rfl) rfl rfl rfl ?_)
  refine gl_cons (gs_val (val_lenSli ksl37 rfl) rfl rfl rfl ?_)
  refine gl_cons (gs_val (val_neq rfl rfl) rfl rfl rfl ?_)
  refine gl_nil ?_
  refine gk_seq ?_
  refine gc_if rfl (fun h10 => ?_) (fun h10 => ?_)
  · have hfin : ¬ l = r := fun h => h10 (by rw [h])
    refine gc_seq ?_
    refine gc_region ?_
    refine gl_cons (gs_val (val_assign rfl) rfl rfl rfl ?_)
    refine gl_nil ?_
    refine gk_seq ?_
    refine gc_ret ?_
    refine gk_seq_ret ?_
    refine gk_ret rfl (resv_tmp rfl .nil) (List.nil_sublist _) ?_
    first | exact ⟨congrArg Value.bool (decide_eq_true hfin).symm, rfl⟩ | exact ⟨congrArg Value.bool (decide_eq_false hfin).symm, rfl⟩
  · have hlen : l.length = r.length := by omega
    refine gc_skip ?_
    refine gk_seq ?_
    refine gc_seq ?_
    refine gc_seq ?_
    refine gc_region ?_
    refine gl_cons (gs_val (val_move rfl) rfl rfl rfl ?_)
    refine gl_cons (gs_val (val_lenSli ksl37 rfl) rfl rfl rfl ?_)
    refine gl_cons (gs_val (val_move rfl) rfl rfl rfl ?_)
    refine gl_nil ?_
    refine gk_seq ?_
    refine gc_block ?_
    refine gc_loop (σ := Nat) (I := fun j => j ≤ l.length ∧ l.take j = r.take j) (μ := fun j => l.length - j) (EI := fun j => [(0, .slice ba l.length c), (1, .slice bb r.length d), (12, I64 (l.length : Int)), (13, I64 (j : Int))]) (LI := fun j => []) 0 ?_ ?_ ?_ ?_
    · exact ⟨Nat.zero_le _, rfl⟩
    · exact (.cons rfl (.cons rfl (.cons rfl (.cons rfl .nil))))
    · exact fun _ h => h.sub (List.nil_sublist _)
    · intro j ⟨hI, hI2⟩
      have hI : j ≤ l.length := hI
      have hI2 : l.take j = r.take j := hI2
      refine gc_seq ?_
      refine gc_region ?_
      refine gl_cons (gs_val (val_lss rfl rfl) rfl rfl rfl ?_)
      refine gl_nil ?_
      refine gk_seq ?_
      refine gc_seq ?_
      refine gc_if rfl (fun hk => ?_) (fun hk => ?_)
      · have hk : j < l.length := by omega
        have hk2 : j < r.length := by omega
        refine gc_skip ?_
        refine gk_seq ?_
        refine gc_seq ?_
        refine gc_block ?_
        refine gc_seq ?_
        refine gc_region ?_
        refine gl_cons (gs_val (val_move rfl) rfl rfl rfl ?_)
        refine gl_cons (gs_val (val_assign rfl) rfl rfl rfl ?_)
        refine gl_nil ?_
        refine gk_seq ?_
        refine gc_seq ?_
        refine gc_drawAll kmixed (by kernel_rfl) ?_
        refine gq_val (val_move rfl) rfl rfl rfl ?_
        refine gq_val (val_move rfl) rfl rfl rfl ?_
        refine gq_val (val_indexSli ksl37 rfl rfl rfl (by omega) (sees_row hpre.1) (by (try simp only [List.length_map, Nat.mul_one, dig_len, inc_len]); omega)) rfl rfl rfl ?_
        refine gq_val (val_load1 kag5 rfl ((sees_row hpre.1).elem hk) rfl) rfl rfl rfl ?_
        refine gq_val (val_move rfl) rfl rfl rfl ?_
        refine gq_val (val_move rfl) rfl rfl rfl ?_
        refine gq_val (val_indexSli ksl37 rfl rfl rfl (by omega) (sees_row hpre.2) (by (try simp only [List.length_map, Nat.mul_one, dig_len, inc_len]); omega)) rfl rfl rfl ?_
        refine gq_val (val_load1 kag5 rfl ((sees_row hpre.2).elem hk2) rfl) rfl rfl rfl ?_
        refine gq_val (val_neq rfl rfl) rfl rfl rfl ?_
        refine gq_nil ?_
        refine gl_nil ?_
        refine gk_seq ?_
        refine gc_if rfl (fun h24 => ?_) (fun h24 => ?_)
        · have hfin : ¬ l = r := fun h => h24 (by subst h; rfl)
          refine gc_seq ?_
          refine gc_region ?_
          refine gl_cons (gs_val (val_assign rfl) rfl rfl rfl ?_)
          refine gl_nil ?_
          refine gk_seq ?_
          refine gc_ret ?_
          refine gk_block_ret ?_
          refine gk_seq_ret ?_
          refine gk_loop_ret ?_
          refine gk_block_ret ?_
          refine gk_seq_ret ?_
          refine gk_ret rfl (resv_tmp rfl .nil) (List.nil_sublist _) ?_
          first | exact ⟨congrArg Value.bool (decide_eq_true hfin).symm, rfl⟩ | exact ⟨congrArg Value.bool (decide_eq_false hfin).symm, rfl⟩
        · have hb : l[j] = r[j] := UInt8.toNat_inj.1 (by omega)
          refine gc_skip ?_
          refine gk_block ?_
          refine gk_seq ?_
          refine gc_region ?_
          refine gl_cons (gs_val (val_addI rfl rfl (by omega)) rfl rfl rfl ?_)
          refine gl_cons (gs_val (val_move rfl) rfl rfl rfl ?_)
          refine gl_nil ?_
          refine gk_again (j + 1) ?_ ?_ ?_ ?_
          · exact ⟨by show j + 1 ≤ l.length; omega, by show l.take (j + 1) = r.take (j + 1); rw [List.take_succ_eq_append_getElem hk, List.take_succ_eq_append_getElem hk2, hI2, hb]⟩
          · show l.length - (j + 1) < l.length - j; omega
          · exact (.cons (rfl) (.cons (rfl) (.cons (rfl) (.cons (rfl) .nil))))
          · exact fun _ h => h.sub (List.nil_sublist _)
      · have hfin : l = r := by rw [← List.take_of_length_le (show l.length ≤ j by omega), hI2, List.take_of_length_le (by omega)]
        refine gc_exit ?_
        refine gk_seq_exit ?_
        refine gk_loop_exit ?_
        refine gk_block_exit ?_
        refine gk_seq ?_
        refine gc_seq ?_
        refine gc_region ?_
        refine gl_cons (gs_val (val_assign rfl) rfl rfl rfl ?_)
        refine gl_nil ?_
        refine gk_seq ?_
        refine gc_ret ?_
        refine gk_ret rfl (resv_tmp rfl .nil) (List.nil_sublist _) ?_
        first | exact ⟨congrArg Value.bool (decide_eq_true hfin).symm, rfl⟩ | exact ⟨congrArg Value.bool (decide_eq_false hfin).symm, rfl⟩

/-- baize/hash.NewWriter -/
theorem newWriter_spec  : Makes Try.prog 55 ([]).toArray (fun _ => True) (fun _ : Nat => True) (fun b => .pointer (some ⟨b, 0, none⟩)) (fun b => [⟨b, .cells [.slice none 0 0].toArray 156 (0, 0)⟩]) := by
  refine spec_walk (n := 3) Try.func55 rfl rfl rfl (fun w0 hpre => ?_)
  refine gc_seq ?_
  refine gc_region ?_
  refine gl_cons (gs_val (val_assign rfl) rfl rfl rfl ?_)
  refine gl_nil ?_
  refine gk_seq ?_
  refine gc_seq ?_
  refine gc_region ?_
  refine gl_cons (gs_val (val_buildStr kze156 kpl156 .nil rfl .nil) rfl rfl rfl ?_)
  refine gl_cons (gs_box rfl rfl rfl rfl (fun b2 => ?_))
  refine gl_cons (gs_val (val_assign rfl) rfl rfl rfl ?_)
  refine gl_nil ?_
  refine gk_seq ?_
  refine gc_ret ?_
  refine gk_ret rfl (resv_tmp rfl .nil) (List.Sublist.refl _) ?_
  exact ⟨b2, trivial, rfl, rfl⟩

/-- (*baize/hash.Writer).Write -/
theorem write_spec (b : Nat) (ba bb : Option Addr) (n c m d : Nat) (l r : List UInt8) (N : List Ent) (hown : Own 5 1 ba n c (l.map U8) N) (hm : r.length = m) (hmax : n + m ≤ 140737488355328) : Turns Try.prog 56 ([.pointer (some ⟨b, 0, none⟩), .slice bb m d]).toArray (fun w => Row w ((⟨b, .cells [.slice ba n c].toArray 156 (0, 0)⟩ :: N).map Ent.b) bb (r.map U8)) (⟨b, .cells [.slice ba n c].toArray 156 (0, 0)⟩ :: N) (fun s : Option Addr × Nat × List Ent => Own 5 1 s.1 (n + m) s.2.1 ((l ++ r).map U8) s.2.2) (fun _ => .tuple #[]) (fun s => ⟨b, .cells [.slice s.1 (n + m) s.2.1].toArray 156 (0, 0)⟩ :: s.2.2) := by
  refine spec_walk (n := 15) Try.func56 rfl rfl rfl (fun w0 hpre => ?_)
  refine gc_seq ?_
  refine gc_region ?_
  refine gl_cons (gs_val (val_move rfl) rfl rfl rfl ?_)
  refine gl_cons (gs_val (val_neqNil kun56 rfl rfl) rfl rfl rfl ?_)
  refine gl_nil ?_
  refine gk_seq ?_
  refine gc_true rfl ?_
  refine gc_region ?_
  refine gl_cons (gs_val (val_move rfl) rfl rfl rfl ?_)
  refine gl_cons (gs_val (val_move rfl) rfl rfl rfl ?_)
  refine gl_cons (gs_val (val_nilCheck rfl) rfl rfl rfl ?_)
  refine gl_cons (gs_val (val_fieldAddr kfo156_0 rfl) rfl rfl rfl ?_)
  refine gl_cons (gs_val (val_load1 kag37 rfl (sees_mem (by repeat (first | exact .head _ | refine .tail _ ?_ | refine List.mem_append_right _ ?_))) rfl) rfl rfl rfl ?_)
  refine gl_cons (gs_val (val_move rfl) rfl rfl rfl ?_)
  refine gl_cons (gs_append ksl37 kze5 rfl rfl rfl rfl rfl rfl (hown) (fun _ => by first | exact .here | exact .headR | exact .app | exact .tail .here | exact .tail .headR | exact .tail .app | exact .tail (.tail .here) | exact .tail (.tail .headR) | exact .tail (.tail .app) | exact .tail (.tail (.tail .here)) | exact .tail (.tail (.tail .headR)) | exact .tail (.tail (.tail .app)) | exact .tail (.tail (.tail (.tail .here))) | exact .tail (.tail (.tail (.tail .headR))) | exact .tail (.tail (.tail (.tail .app))) | exact .tail (.tail (.tail (.tail (.tail .here)))) | exact .tail (.tail (.tail (.tail (.tail .headR)))) | exact .tail (.tail (.tail (.tail (.tail .app)))) | exact .appr .here | exact .appr .headR | exact .appr .app | exact .tail (.appr .here) | exact .tail (.appr .headR) | exact .tail (.appr .app) | exact .tail (.tail (.appr .here)) | exact .tail (.tail (.appr .headR)) | exact .tail (.tail (.appr .app)) | exact .appr (.tail .here) | exact .appr (.tail .headR) | exact .appr (.tail .app) | exact .appr (.tail (.tail .here)) | exact .appr (.tail (.tail .headR)) | exact .appr (.tail (.tail .app)) | exact .appr (.appr .here) | exact .appr (.appr .headR) | exact .appr (.appr .app) | exact .tail (.appr (.appr .here)) | exact .tail (.appr (.appr .headR)) | exact .tail (.appr (.appr .app)) | exact .appr (.appr (.tail .here)) | exact .appr (.appr (.tail .headR)) | exact .appr (.appr (.tail .app)) | exact .appr (.appr (.appr .here)) | exact .appr (.appr (.appr .headR)) | exact .appr (.appr (.appr .app))) (brings_slice ksl37 (sees_row hpre) (by rw [List.length_map, hm, Nat.mul_one]) (one_map (fun _ => rfl) _)) (by omega) (fun ba12 c12 N12 hown12 => ?_))
  refine gl_cons (gs_val (val_nilCheck rfl) rfl rfl rfl ?_)
  refine gl_cons (gs_val (val_fieldAddr kfo156_0 rfl) rfl rfl rfl ?_)
  refine gl_cons (gs_store ksz37 rfl rfl rfl rfl rfl rfl (by first | exact .head | exact .tail .head | exact .tail (.tail .head) | exact .tail (.tail (.tail .head)) | exact .tail (.tail (.tail (.tail .head))) | exact .tail (.tail (.tail (.tail (.tail .head))))) (by simp) (by first | ((with_reducible refine splice_all _ _ ?_); simp; done) | (simp only [splice, stL, digL, List.take_succ_cons, List.take_zero, List.drop_succ_cons, List.drop_zero, List.length_cons, List.length_nil, Nat.reduceAdd, Nat.reduceMul, Nat.zero_add, Nat.zero_mul, List.cons_append, List.nil_append]; exact rfl)) ?_)
  refine gl_nil ?_
  refine gk_end rfl .nil (List.Sublist.refl _) ?_
  refine ⟨(ba12, c12, N12), ?_, rfl, rfl⟩
  show Own 5 1 ba12 (n + m) c12 ((l ++ r).map U8) N12
  rw [List.map_append]
  exact hown12

/-- (*baize/hash.Writer).Write -/
theorem write_nil (bb : Option Addr) (m d : Nat) : Pure Try.prog 56 ([.pointer none, .slice bb m d]).toArray (fun _ => True) (.tuple #[]) := by
  refine spec_walk (n := 15) Try.func56 rfl rfl rfl (fun w0 hpre => ?_)
  refine gc_seq ?_
  refine gc_region ?_
  refine gl_cons (gs_val (val_move rfl) rfl rfl rfl ?_)
  refine gl_cons (gs_val (val_neqNil kun56 rfl rfl) rfl rfl rfl ?_)
  refine gl_nil ?_
  refine gk_seq ?_
  refine gc_false rfl ?_
  refine gc_skip ?_
  refine gk_end rfl .nil (List.nil_sublist _) ?_
  exact ⟨rfl, rfl⟩

/-- (*baize/hash.Writer).Sum -/
theorem sum_spec (b : Nat) (ba : Option Addr) (n c : Nat) (l : List UInt8) (hn : l.length = n) (hl : n ≤ 281474976710656) (hc : n ≤ c) : Pure Try.prog 57 ([.pointer (some ⟨b, 0, none⟩)]).toArray (fun w => Row w [] (some ⟨b, 0, none⟩) [.slice ba n c] ∧ Row w [] ba (l.map U8)) (Dig (hOf l)) := by
  refine spec_walk (n := 11) Try.func57 rfl rfl rfl (fun w0 hpre => ?_)
  refine gc_seq ?_
  refine gc_region ?_
  refine gl_cons (gs_alloc kze24 rfl rfl rfl (fun b2 => ?_))
  refine gl_nil ?_
  refine gk_seq ?_
  refine gc_seq ?_
  refine gc_seq ?_
  refine gc_region ?_
  refine gl_cons (gs_val (val_move rfl) rfl rfl rfl ?_)
  refine gl_cons (gs_val (val_eqlNil kun56 rfl rfl) rfl rfl rfl ?_)
  refine gl_nil ?_
  refine gk_seq ?_
  refine gc_false rfl ?_
  refine gc_skip ?_
  refine gk_seq ?_
  refine gc_seq ?_
  refine gc_region ?_
  refine gl_cons (gs_val (val_move rfl) rfl rfl rfl ?_)
  refine gl_cons (gs_val (val_nilCheck rfl) rfl rfl rfl ?_)
  refine gl_cons (gs_val (val_fieldAddr kfo156_0 rfl) rfl rfl rfl ?_)
  refine gl_cons (gs_val (val_load1 kag37 rfl (sees_row hpre.1) rfl) rfl rfl rfl ?_)
  refine gl_cons (gs_pure (enters kcall51 (.cons rfl .nil)) (of_spec _ _ _ l hn hl hc) rfl rfl rfl (row_of_sees (sees_row hpre.2)) ?_)
  refine gl_cons (gs_store ksz24 rfl rfl rfl rfl rfl rfl (by first | exact .head | exact .tail .head | exact .tail (.tail .head) | exact .tail (.tail (.tail .head)) | exact .tail (.tail (.tail (.tail .head))) | exact .tail (.tail (.tail (.tail (.tail .head))))) (by simp) (by first | ((with_reducible refine splice_all _ _ ?_); simp; done) | (simp only [splice, stL, digL, List.take_succ_cons, List.take_zero, List.drop_succ_cons, List.drop_zero, List.length_cons, List.length_nil, Nat.reduceAdd, Nat.reduceMul, Nat.zero_add, Nat.zero_mul, List.cons_append, List.nil_append]; exact rfl)) ?_)
  refine gl_nil ?_
  refine gk_seq ?_
  refine gc_ret ?_
  refine gk_ret rfl (resv_cellA kag24 rfl (sees_mem (by repeat (first | exact .head _ | refine .tail _ ?_ | refine List.mem_append_right _ ?_))) rfl rfl .nil) (List.nil_sublist _) ?_
  exact ⟨rfl, rfl⟩

/-- (*baize/hash.Writer).Sum -/
theorem sum_nil  : Pure Try.prog 57 ([.pointer none]).toArray (fun _ => True) (Dig (hOf [])) := by
  refine spec_walk (n := 11) Try.func57 rfl rfl rfl (fun w0 hpre => ?_)
  refine gc_seq ?_
  refine gc_region ?_
  refine gl_cons (gs_alloc kze24 rfl rfl rfl (fun b2 => ?_))
  refine gl_nil ?_
  refine gk_seq ?_
  refine gc_seq ?_
  refine gc_seq ?_
  refine gc_region ?_
  refine gl_cons (gs_val (val_move rfl) rfl rfl rfl ?_)
  refine gl_cons (gs_val (val_eqlNil kun56 rfl rfl) rfl rfl rfl ?_)
  refine gl_nil ?_
  refine gk_seq ?_
  refine gc_true rfl ?_
  refine gc_seq ?_
  refine gc_region ?_
  refine gl_cons (gs_pure (enters kcall51 (.cons rfl .nil)) (of_spec _ _ _ [] rfl (by decide) (by decide)) rfl rfl rfl (row_of_sees sees_nil) ?_)
  refine gl_cons (gs_store ksz24 rfl rfl rfl rfl rfl rfl (by first | exact .head | exact .tail .head | exact .tail (.tail .head) | exact .tail (.tail (.tail .head)) | exact .tail (.tail (.tail (.tail .head))) | exact .tail (.tail (.tail (.tail (.tail .head))))) (by simp) (by first | ((with_reducible refine splice_all _ _ ?_); simp; done) | (simp only [splice, stL, digL, List.take_succ_cons, List.take_zero, List.drop_succ_cons, List.drop_zero, List.length_cons, List.length_nil, Nat.reduceAdd, Nat.reduceMul, Nat.zero_add, Nat.zero_mul, List.cons_append, List.nil_append]; exact rfl)) ?_)
  refine gl_nil ?_
  refine gk_seq ?_
  refine gc_ret ?_
  refine gk_seq_ret ?_
  refine gk_ret rfl (resv_cellA kag24 rfl (sees_mem (by repeat (first | exact .head _ | refine .tail _ ?_ | refine List.mem_append_right _ ?_))) rfl rfl .nil) (List.nil_sublist _) ?_
  exact ⟨rfl, rfl⟩

/-- slices.Clone[[]byte,byte] -/
theorem sclone_spec (ba : Option Addr) (n c : Nat) (l : List UInt8) (hn : l.length = n) (hmax : n ≤ 140737488355328) : Makes Try.prog 119 ([.slice ba n c]).toArray (fun w => Row w [] ba (l.map U8)) (fun s : Option Addr × Nat × List Ent => Own 5 1 s.1 n s.2.1 (l.map U8) s.2.2) (fun s => .slice s.1 n s.2.1) (fun s => s.2.2) := by
  refine spec_walk (n := 8) Try.func119 rfl rfl rfl (fun w0 hpre => ?_)
  refine gc_seq ?_
  refine gc_region ?_
  refine gl_cons (gs_val (val_assign rfl) rfl rfl rfl ?_)
  refine gl_nil ?_
  refine gk_seq ?_
  refine gc_seq ?_
  refine gc_seq ?_
  refine gc_region ?_
  refine gl_cons (gs_val (val_move rfl) rfl rfl rfl ?_)
  refine gl_cons (gs_val (val_cast (v := .bool (decide (ba = none))) (val_eqlNilSli kun37 rfl rfl) (by cases ba <;> rfl)) rfl rfl rfl ?_)
  refine gl_nil ?_
  refine gk_seq ?_
  refine gc_if rfl (fun h4 => ?_) (fun h4 => ?_)
  · have hnil := row_none (h4 ▸ hpre)
    subst hnil
    subst hn
    refine gc_seq ?_
    refine gc_region ?_
    refine gl_cons (gs_val (val_assign rfl) rfl rfl rfl ?_)
    refine gl_nil ?_
    refine gk_seq ?_
    refine gc_ret ?_
    refine gk_seq_ret ?_
    refine gk_ret rfl (resv_tmp rfl .nil) (by first | exact List.Sublist.refl _ | exact List.nil_sublist _) ?_
    first | (refine ⟨(ba7, c7, N7), ?_, congrArg (fun z => Value.slice ba7 z c7) (Nat.zero_add _), rfl⟩; rw [Nat.zero_add] at hown7; exact hown7) | exact ⟨(none, 0, []), .nil, rfl, rfl⟩
  · skip
    refine gc_skip ?_
    refine gk_seq ?_
    refine gc_seq ?_
    refine gc_region ?_
    refine gl_cons (gs_buildSlice (zs := []) ksl37 kze5 rfl rfl .nil .nil rfl rfl (fun b5 => ?_))
    refine gl_cons (gs_val (val_move rfl) rfl rfl rfl ?_)
    refine gl_cons (gs_append ksl37 kze5 rfl rfl rfl rfl rfl rfl (own_lit (xs := []) rfl) (fun _ => by first | exact .here | exact .headR | exact .app | exact .tail .here | exact .tail .headR | exact .tail .app | exact .tail (.tail .here) | exact .tail (.tail .headR) | exact .tail (.tail .app) | exact .tail (.tail (.tail .here)) | exact .tail (.tail (.tail .headR)) | exact .tail (.tail (.tail .app)) | exact .tail (.tail (.tail (.tail .here))) | exact .tail (.tail (.tail (.tail .headR))) | exact .tail (.tail (.tail (.tail .app))) | exact .tail (.tail (.tail (.tail (.tail .here)))) | exact .tail (.tail (.tail (.tail (.tail .headR)))) | exact .tail (.tail (.tail (.tail (.tail .app)))) | exact .appr .here | exact .appr .headR | exact .appr .app | exact .tail (.appr .here) | exact .tail (.appr .headR) | exact .tail (.appr .app) | exact .tail (.tail (.appr .here)) | exact .tail (.tail (.appr .headR)) | exact .tail (.tail (.appr .app)) | exact .appr (.tail .here) | exact .appr (.tail .headR) | exact .appr (.tail .app) | exact .appr (.tail (.tail .here)) | exact .appr (.tail (.tail .headR)) | exact .appr (.tail (.tail .app)) | exact .appr (.appr .here) | exact .appr (.appr .headR) | exact .appr (.appr .app) | exact .tail (.appr (.appr .here)) | exact .tail (.appr (.appr .headR)) | exact .tail (.appr (.appr .app)) | exact .appr (.appr (.tail .here)) | exact .appr (.appr (.tail .headR)) | exact .appr (.appr (.tail .app)) | exact .appr (.appr (.appr .here)) | exact .appr (.appr (.appr .headR)) | exact .appr (.appr (.appr .app))) (brings_slice ksl37 (sees_row hpre) (by rw [List.length_map, hn, Nat.mul_one]) (one_map (fun _ => rfl) _)) (by omega) (fun ba7 c7 N7 hown7 => ?_))
    refine gl_cons (gs_val (val_assign rfl) rfl rfl rfl ?_)
    refine gl_nil ?_
    refine gk_seq ?_
    refine gc_ret ?_
    refine gk_ret rfl (resv_tmp rfl .nil) (by first | exact List.Sublist.refl _ | exact List.nil_sublist _) ?_
    first | (refine ⟨(ba7, c7, N7), ?_, congrArg (fun z => Value.slice ba7 z c7) (Nat.zero_add _), rfl⟩; rw [Nat.zero_add] at hown7; exact hown7) | exact ⟨(none, 0, []), .nil, rfl, rfl⟩

/-- (*baize/hash.Writer).Same -/
theorem sameW_spec (b o : Nat) (ba bb : Option Addr) (n c m d : Nat) (l r : List UInt8) (hn : l.length = n) (hl : n ≤ 281474976710656) (hc : n ≤ c) (hm : r.length = m) (hr : m ≤ 281474976710656) (hd : m ≤ d) : Pure Try.prog 58 ([.pointer (some ⟨b, 0, none⟩), .pointer (some ⟨o, 0, none⟩)]).toArray (fun w => (Row w [] (some ⟨b, 0, none⟩) [.slice ba n c] ∧ Row w [] ba (l.map U8)) ∧ (Row w [] (some ⟨o, 0, none⟩) [.slice bb m d] ∧ Row w [] bb (r.map U8))) (.bool (decide (l = r))) := by
  refine spec_walk (n := 30) Try.func58 rfl rfl rfl (fun w0 hpre => ?_)
  refine gc_seq ?_
  refine gc_region ?_
  refine gl_cons (gs_val (val_assign rfl) rfl rfl rfl ?_)
  refine gl_nil ?_
  refine gk_seq ?_
  refine gc_seq ?_
  refine gc_seq ?_
  refine gc_region ?_
  refine gl_cons (gs_val (val_move rfl) rfl rfl rfl ?_)
  refine gl_cons (gs_val (val_eqlNil kun56 rfl rfl) rfl rfl rfl ?_)
  refine gl_cons (gs_val (val_move rfl) rfl rfl rfl ?_)
  refine gl_cons (gs_val (val_move rfl) rfl rfl rfl ?_)
  refine gl_cons (gs_val (val_eqlNil kun56 rfl rfl) rfl rfl rfl ?_)
  refine gl_cons (gs_val (val_pick_f rfl rfl) rfl rfl rfl ?_)
  refine gl_nil ?_
  refine gk_seq ?_
  refine gc_false rfl ?_
  refine gc_skip ?_
  refine gk_seq ?_
  refine gc_seq ?_
  refine gc_drawAll kmixed (by kernel_rfl) ?_
  refine gq_val (val_move rfl) rfl rfl rfl ?_
  refine gq_pure (enters kcall57 (.cons rfl .nil)) (sum_spec b ba n c l hn hl hc) rfl rfl rfl (fun w hi => ⟨row_of_sees (sees_row hpre.1.1) w hi, row_of_sees (sees_row hpre.1.2) w hi⟩) ?_
  refine gq_val (val_move rfl) rfl rfl rfl ?_
  refine gq_pure (enters kcall57 (.cons rfl .nil)) (sum_spec o bb m d r hm hr hd) rfl rfl rfl (fun w hi => ⟨row_of_sees (sees_row hpre.2.1) w hi, row_of_sees (sees_row hpre.2.2) w hi⟩) ?_
  refine gq_val (val_eqlDig kdig24 rfl rfl rfl rfl) rfl rfl rfl ?_
  refine gq_val (val_move rfl) rfl rfl rfl ?_
  refine gq_split 19 rfl (fun h19 => ?_) (fun h19 => ?_)
  · skip
    refine gq_val (val_move rfl) rfl rfl rfl ?_
    refine gq_val (val_nilCheck rfl) rfl rfl rfl ?_
    refine gq_val (val_fieldAddr kfo156_0 rfl) rfl rfl rfl ?_
    refine gq_val (val_load1 kag37 rfl (sees_row hpre.1.1) rfl) rfl rfl rfl ?_
    refine gq_val (val_move rfl) rfl rfl rfl ?_
    refine gq_val (val_nilCheck rfl) rfl rfl rfl ?_
    refine gq_val (val_fieldAddr kfo156_0 rfl) rfl rfl rfl ?_
    refine gq_val (val_load1 kag37 rfl (sees_row hpre.2.1) rfl) rfl rfl rfl ?_
    refine gq_pure (enters kcall118 (.cons rfl (.cons rfl .nil))) (equal_spec ba bb n m c d l r hn hm hl hr) rfl rfl rfl (fun w hi => ⟨row_of_sees (sees_row hpre.1.2) w hi, row_of_sees (sees_row hpre.2.2) w hi⟩) ?_
    refine gq_val (val_pick_t rfl rfl) rfl rfl rfl ?_
    refine gq_val (val_assign rfl) rfl rfl rfl ?_
    refine gq_nil ?_
    refine gl_nil ?_
    refine gk_seq ?_
    refine gc_ret ?_
    refine gk_ret rfl (resv_tmp rfl .nil) (List.nil_sublist _) ?_
    first | exact ⟨rfl, rfl⟩ | exact ⟨congrArg Value.bool (decide_eq_false (fun h => h19 (by rw [h]))).symm, rfl⟩
  · skip
    refine gq_skip rfl rfl rfl ?_
    refine gq_skip rfl rfl rfl ?_
    refine gq_skip rfl rfl rfl ?_
    refine gq_skip rfl rfl rfl ?_
    refine gq_skip rfl rfl rfl ?_
    refine gq_skip rfl rfl rfl ?_
    refine gq_skip rfl rfl rfl ?_
    refine gq_skip rfl rfl rfl ?_
    refine gq_skip rfl rfl rfl ?_
    refine gq_val (val_pick_f rfl rfl) rfl rfl rfl ?_
    refine gq_val (val_assign rfl) rfl rfl rfl ?_
    refine gq_nil ?_
    refine gl_nil ?_
    refine gk_seq ?_
    refine gc_ret ?_
    refine gk_ret rfl (resv_tmp rfl .nil) (List.nil_sublist _) ?_
    first | exact ⟨rfl, rfl⟩ | exact ⟨congrArg Value.bool (decide_eq_false (fun h => h19 (by rw [h]))).symm, rfl⟩

/-- (*baize/hash.Writer).Same -/
theorem sameW_wn (b : Nat) : Pure Try.prog 58 ([.pointer (some ⟨b, 0, none⟩), .pointer none]).toArray (fun _ => True) (.bool false) := by
  refine spec_walk (n := 30) Try.func58 rfl rfl rfl (fun w0 hpre => ?_)
  refine gc_seq ?_
  refine gc_region ?_
  refine gl_cons (gs_val (val_assign rfl) rfl rfl rfl ?_)
  refine gl_nil ?_
  refine gk_seq ?_
  refine gc_seq ?_
  refine gc_seq ?_
  refine gc_region ?_
  refine gl_cons (gs_val (val_move rfl) rfl rfl rfl ?_)
  refine gl_cons (gs_val (val_eqlNil kun56 rfl rfl) rfl rfl rfl ?_)
  refine gl_cons (gs_val (val_move rfl) rfl rfl rfl ?_)
  refine gl_cons (gs_val (val_move rfl) rfl rfl rfl ?_)
  refine gl_cons (gs_val (val_eqlNil kun56 rfl rfl) rfl rfl rfl ?_)
  refine gl_cons (gs_val (val_pick_f rfl rfl) rfl rfl rfl ?_)
  refine gl_nil ?_
  refine gk_seq ?_
  refine gc_true rfl ?_
  refine gc_seq ?_
  refine gc_region ?_
  refine gl_cons (gs_val (val_move rfl) rfl rfl rfl ?_)
  refine gl_cons (gs_val (val_move rfl) rfl rfl rfl ?_)
  refine gl_cons (gs_val (val_eqlNil kun56 rfl rfl) rfl rfl rfl ?_)
  refine gl_cons (gs_val (val_assign rfl) rfl rfl rfl ?_)
  refine gl_nil ?_
  refine gk_seq ?_
  refine gc_ret ?_
  refine gk_seq_ret ?_
  refine gk_ret rfl (resv_tmp rfl .nil) (List.nil_sublist _) ?_
  exact ⟨rfl, rfl⟩

/-- (*baize/hash.Writer).Same -/
theorem sameW_nn  : Pure Try.prog 58 ([.pointer none, .pointer none]).toArray (fun _ => True) (.bool true) := by
  refine spec_walk (n := 30) Try.func58 rfl rfl rfl (fun w0 hpre => ?_)
  refine gc_seq ?_
  refine gc_region ?_
  refine gl_cons (gs_val (val_assign rfl) rfl rfl rfl ?_)
  refine gl_nil ?_
  refine gk_seq ?_
  refine gc_seq ?_
  refine gc_seq ?_
  refine gc_region ?_
  refine gl_cons (gs_val (val_move rfl) rfl rfl rfl ?_)
  refine gl_cons (gs_val (val_eqlNil kun56 rfl rfl) rfl rfl rfl ?_)
  refine gl_cons (gs_val (val_move rfl) rfl rfl rfl ?_)
  refine gl_cons (gs_skip rfl rfl rfl ?_)
  refine gl_cons (gs_skip rfl rfl rfl ?_)
  refine gl_cons (gs_val (val_pick_t rfl rfl) rfl rfl rfl ?_)
  refine gl_nil ?_
  refine gk_seq ?_
  refine gc_true rfl ?_
  refine gc_seq ?_
  refine gc_region ?_
  refine gl_cons (gs_val (val_move rfl) rfl rfl rfl ?_)
  refine gl_cons (gs_val (val_move rfl) rfl rfl rfl ?_)
  refine gl_cons (gs_val (val_eqlNil kun56 rfl rfl) rfl rfl rfl ?_)
  refine gl_cons (gs_val (val_assign rfl) rfl rfl rfl ?_)
  refine gl_nil ?_
  refine gk_seq ?_
  refine gc_ret ?_
  refine gk_seq_ret ?_
  refine gk_ret rfl (resv_tmp rfl .nil) (List.nil_sublist _) ?_
  exact ⟨rfl, rfl⟩

/-- (*baize/hash.Writer).Same -/
theorem sameW_nw (b : Nat) : Pure Try.prog 58 ([.pointer none, .pointer (some ⟨b, 0, none⟩)]).toArray (fun _ => True) (.bool false) := by
  refine spec_walk (n := 30) Try.func58 rfl rfl rfl (fun w0 hpre => ?_)
  refine gc_seq ?_
  refine gc_region ?_
  refine gl_cons (gs_val (val_assign rfl) rfl rfl rfl ?_)
  refine gl_nil ?_
  refine gk_seq ?_
  refine gc_seq ?_
  refine gc_seq ?_
  refine gc_region ?_
  refine gl_cons (gs_val (val_move rfl) rfl rfl rfl ?_)
  refine gl_cons (gs_val (val_eqlNil kun56 rfl rfl) rfl rfl rfl ?_)
  refine gl_cons (gs_val (val_move rfl) rfl rfl rfl ?_)
  refine gl_cons (gs_skip rfl rfl rfl ?_)
  refine gl_cons (gs_skip rfl rfl rfl ?_)
  refine gl_cons (gs_val (val_pick_t rfl rfl) rfl rfl rfl ?_)
  refine gl_nil ?_
  refine gk_seq ?_
  refine gc_true rfl ?_
  refine gc_seq ?_
  refine gc_region ?_
  refine gl_cons (gs_val (val_move rfl) rfl rfl rfl ?_)
  refine gl_cons (gs_val (val_move rfl) rfl rfl rfl ?_)
  refine gl_cons (gs_val (val_eqlNil' kun56 rfl rfl) rfl rfl rfl ?_)
  refine gl_cons (gs_val (val_assign rfl) rfl rfl rfl ?_)
  refine gl_nil ?_
  refine gk_seq ?_
  refine gc_ret ?_
  refine gk_seq_ret ?_
  refine gk_ret rfl (resv_tmp rfl .nil) (List.nil_sublist _) ?_
  exact ⟨rfl, rfl⟩

/-- (*baize/hash.Writer).Clone -/
theorem cloneW_spec (b : Nat) (ba : Option Addr) (n c : Nat) (l : List UInt8) (hn : l.length = n) (hmax : n ≤ 140737488355328) : Makes Try.prog 59 ([.pointer (some ⟨b, 0, none⟩)]).toArray (fun w => Row w [] (some ⟨b, 0, none⟩) [.slice ba n c] ∧ Row w [] ba (l.map U8)) (fun s : Nat × Option Addr × Nat × List Ent => Own 5 1 s.2.1 n s.2.2.1 (l.map U8) s.2.2.2) (fun s => .pointer (some ⟨s.1, 0, none⟩)) (fun s => ⟨s.1, .cells [.slice s.2.1 n s.2.2.1].toArray 156 (0, 0)⟩ :: s.2.2.2) := by
  refine spec_walk (n := 12) Try.func59 rfl rfl rfl (fun w0 hpre => ?_)
  refine gc_seq ?_
  refine gc_region ?_
  refine gl_cons (gs_val (val_assign rfl) rfl rfl rfl ?_)
  refine gl_nil ?_
  refine gk_seq ?_
  refine gc_seq ?_
  refine gc_seq ?_
  refine gc_region ?_
  refine gl_cons (gs_val (val_move rfl) rfl rfl rfl ?_)
  refine gl_cons (gs_val (val_eqlNil kun56 rfl rfl) rfl rfl rfl ?_)
  refine gl_nil ?_
  refine gk_seq ?_
  refine gc_false rfl ?_
  refine gc_skip ?_
  refine gk_seq ?_
  refine gc_seq ?_
  refine gc_region ?_
  refine gl_cons (gs_val (val_move rfl) rfl rfl rfl ?_)
  refine gl_cons (gs_val (val_nilCheck rfl) rfl rfl rfl ?_)
  refine gl_cons (gs_val (val_fieldAddr kfo156_0 rfl) rfl rfl rfl ?_)
  refine gl_cons (gs_val (val_load1 kag37 rfl (sees_row hpre.1) rfl) rfl rfl rfl ?_)
  refine gl_cons (gs_makes (enters kcall119 (.cons rfl .nil)) (sclone_spec ba n c l hn hmax) rfl rfl rfl (row_of_sees (sees_row hpre.2)) (fun ⟨ba9, c9, N9⟩ h9 => ?_))
  refine gl_cons (gs_val (val_buildStr kze156 kpl156 (.cons rfl .nil) rfl (.cons rfl rfl rfl (by simp) (by first | ((with_reducible refine splice_all _ _ ?_); simp; done) | (simp only [splice, stL, digL, List.take_succ_cons, List.take_zero, List.drop_succ_cons, List.drop_zero, List.length_cons, List.length_nil, Nat.reduceAdd, Nat.reduceMul, Nat.zero_add, Nat.zero_mul, List.cons_append, List.nil_append]; exact rfl)) .nil)) rfl rfl rfl ?_)
  refine gl_cons (gs_box rfl rfl rfl rfl (fun b11 => ?_))
  refine gl_cons (gs_val (val_assign rfl) rfl rfl rfl ?_)
  refine gl_nil ?_
  refine gk_seq ?_
  refine gc_ret ?_
  refine gk_ret rfl (resv_tmp rfl .nil) (by rw [List.append_nil]; exact List.Sublist.refl _) ?_
  exact ⟨(b11, ba9, c9, N9), h9, rfl, rfl⟩

/-- (*baize/hash.Writer).Clone -/
theorem cloneW_nil  : Pure Try.prog 59 ([.pointer none]).toArray (fun _ => True) (.pointer none) := by
  refine spec_walk (n := 12) Try.func59 rfl rfl rfl (fun w0 hpre => ?_)
  refine gc_seq ?_
  refine gc_region ?_
  refine gl_cons (gs_val (val_assign rfl) rfl rfl rfl ?_)
  refine gl_nil ?_
  refine gk_seq ?_
  refine gc_seq ?_
  refine gc_seq ?_
  refine gc_region ?_
  refine gl_cons (gs_val (val_move rfl) rfl rfl rfl ?_)
  refine gl_cons (gs_val (val_eqlNil kun56 rfl rfl) rfl rfl rfl ?_)
  refine gl_nil ?_
  refine gk_seq ?_
  refine gc_true rfl ?_
  refine gc_seq ?_
  refine gc_region ?_
  refine gl_cons (gs_val (val_assign rfl) rfl rfl rfl ?_)
  refine gl_nil ?_
  refine gk_seq ?_
  refine gc_ret ?_
  refine gk_seq_ret ?_
  refine gk_ret rfl (resv_tmp rfl .nil) (List.nil_sublist _) ?_
  exact ⟨rfl, rfl⟩

end Go.Proofs.Ythmepionpjkcgaa
