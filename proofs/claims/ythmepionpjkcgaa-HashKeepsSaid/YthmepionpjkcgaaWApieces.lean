/- The walk of functions of the program: what each computes, for every input. -/
import Derived.Test.YthmepionpjkcgaaWAFacts
import Derived.Test.YthmepionpjkcgaaWAwriter
import Derived.Test.YthmepionpjkcgaaWAlaw02
namespace Go.Proofs.Ythmepionpjkcgaa
open Go Go.Eng
set_option linter.unusedVariables false
set_option linter.unusedSimpArgs false

/-- baize/baizelaw02.HashPieces -/
theorem hashPieces_walk (ba : Option Addr) (n cap : Nat) (l : List Piece) (hn : l.length = n) (hp : ∀ p ∈ l, p.2.2.2.length = p.2.1 ∧ p.2.1 ≤ 140737488354328) : Pure Try.prog 8 ([.slice ba n cap]).toArray (fun w => Row w [] ba (l.map Piece.v) ∧ ∀ p ∈ l, Row w [] p.1 (p.2.2.2.map U8)) (.bool true) := by
  subst hn
  refine spec_walk (n := 51) Try.func8 rfl rfl rfl (fun w0 hpre => ?_)
  refine gc_seq ?_
  refine gc_region ?_
  refine gl_cons (gs_val (val_assign rfl) rfl rfl rfl ?_)
  refine gl_nil ?_
  refine gk_seq ?_
  refine gc_seq ?_
  refine gc_seq ?_
  refine gc_region ?_
  refine gl_cons (gs_pure (enters kcall35 .nil) (known02_spec) rfl rfl rfl (fun _ _ => trivial) ?_)
  refine gl_cons (gs_val (val_not rfl) rfl rfl rfl ?_)
  refine gl_cons (gs_val (val_move rfl) rfl rfl rfl ?_)
  refine gl_cons (gs_val (val_move rfl) rfl rfl rfl ?_)
  refine gl_cons (gs_val (val_lenSli ksl55 rfl) rfl rfl rfl ?_)
  refine gl_cons (gs_val (val_gtr rfl rfl) rfl rfl rfl ?_)
  refine gl_cons (gs_val (val_pick_f rfl rfl) rfl rfl rfl ?_)
  refine gl_nil ?_
  refine gk_seq ?_
  refine gc_if rfl (fun h13 => ?_) (fun h13 => ?_)
  · skip
    refine gc_seq ?_
    refine gc_region ?_
    refine gl_cons (gs_pure (enters kcall35 .nil) (known02_spec) rfl rfl rfl (fun _ _ => trivial) ?_)
    refine gl_cons (gs_val (val_assign rfl) rfl rfl rfl ?_)
    refine gl_nil ?_
    refine gk_seq ?_
    refine gc_ret ?_
    refine gk_seq_ret ?_
    refine gk_ret rfl (resv_tmp rfl .nil) (List.nil_sublist _) ?_
    exact ⟨rfl, rfl⟩
  · skip
    refine gc_skip ?_
    refine gk_seq ?_
    refine gc_seq ?_
    refine gc_region ?_
    refine gl_cons (gs_makes (enters kcall55 .nil) (newWriter_spec) rfl rfl rfl (fun _ _ => trivial) (fun b3 _ => ?_))
    refine gl_cons (gs_val (val_assign rfl) rfl rfl rfl ?_)
    refine gl_nil ?_
    refine gk_seq ?_
    refine gc_seq ?_
    refine gc_seq ?_
    refine gc_region ?_
    refine gl_cons (gs_val (val_move rfl) rfl rfl rfl ?_)
    refine gl_cons (gs_val (val_eqlNil kun56 rfl rfl) rfl rfl rfl ?_)
    refine gl_nil ?_
    refine gk_seq ?_
    refine gc_false rfl ?_
    refine gc_skip ?_
    refine gk_seq ?_
    refine gc_seq ?_
    refine gc_region ?_
    refine gl_cons (gs_val (val_assign rfl) rfl rfl rfl ?_)
    refine gl_nil ?_
    refine gk_seq ?_
    refine gc_seq ?_
    refine gc_seq ?_
    refine gc_region ?_
    refine gl_cons (gs_val (val_move rfl) rfl rfl rfl ?_)
    refine gl_cons (gs_val (val_lenSli ksl55 rfl) rfl rfl rfl ?_)
    refine gl_cons (gs_val (val_move rfl) rfl rfl rfl ?_)
    refine gl_nil ?_
    refine gk_seq ?_
    refine gc_block ?_
    refine gc_loop (σ := Nat × (Option Addr × Nat × List Ent) × (Option Addr × Nat × List Ent)) (I := fun v => v.1 ≤ l.length ∧ (joined (l.take v.1)).length ≤ 1000 ∧ Own 5 1 v.2.1.1 (joined (l.take v.1)).length v.2.1.2.1 ((joined (l.take v.1)).map U8) v.2.1.2.2 ∧ Own 5 1 v.2.2.1 (joined (l.take v.1)).length v.2.2.2.1 ((joined (l.take v.1)).map U8) v.2.2.2.2) (μ := fun v => l.length - v.1) (EI := fun v => [(3, .pointer (some ⟨b3, 0, none⟩)), (4, .slice v.2.1.1 (joined (l.take v.1)).length v.2.1.2.1), (18, .slice ba l.length cap), (19, I64 (l.length : Int)), (20, I64 (v.1 : Int))]) (LI := fun v => ⟨b3, .cells [.slice v.2.2.1 (joined (l.take v.1)).length v.2.2.2.1].toArray 156 (0, 0)⟩ :: (v.2.2.2.2 ++ v.2.1.2.2)) (0, (none, 0, []), (none, 0, [])) ?_ ?_ ?_ ?_
    · exact ⟨Nat.zero_le _, Nat.zero_le _, .nil, .nil⟩
    · exact (.cons rfl (.cons rfl (.cons rfl (.cons rfl (.cons rfl .nil)))))
    · exact fun _ h => h
    · intro ⟨k, ⟨ba', c', N⟩, ⟨wa, wc, M⟩⟩ ⟨hkl, hj, hown, hwr⟩
      dsimp only
      have hkl : k ≤ l.length := hkl
      have hj : (joined (l.take k)).length ≤ 1000 := hj
      have hown : Own 5 1 ba' (joined (l.take k)).length c' ((joined (l.take k)).map U8) N := hown
      have hwr : Own 5 1 wa (joined (l.take k)).length wc ((joined (l.take k)).map U8) M := hwr
      refine gc_seq ?_
      refine gc_region ?_
      refine gl_cons (gs_val (val_lss rfl rfl) rfl rfl rfl ?_)
      refine gl_nil ?_
      refine gk_seq ?_
      refine gc_seq ?_
      refine gc_if rfl (fun hk => ?_) (fun hk => ?_)
      · have hk : k < l.length := by omega
        have hmem : l[k] ∈ l := List.getElem_mem hk
        have hpk := hp _ hmem
        refine gc_skip ?_
        refine gk_seq ?_
        refine gc_seq ?_
        refine gc_block ?_
        refine gc_seq ?_
        refine gc_region ?_
        refine gl_cons (gs_val (val_indexSli ksl55 rfl rfl rfl (by omega) (sees_row hpre.1) (by (try simp only [List.length_map, Nat.mul_one, dig_len, inc_len]); omega)) rfl rfl rfl ?_)
        refine gl_cons (gs_val (val_load1 kag37 rfl ((sees_row hpre.1).elem hk) rfl) rfl rfl rfl ?_)
        refine gl_cons (gs_val (val_assign rfl) rfl rfl rfl ?_)
        refine gl_nil ?_
        refine gk_seq ?_
        refine gc_seq ?_
        refine gc_region ?_
        refine gl_cons (gs_val (val_move rfl) rfl rfl rfl ?_)
        refine gl_cons (gs_val (val_move rfl) rfl rfl rfl ?_)
        refine gl_cons (gs_append ksl37 kze5 rfl rfl rfl rfl rfl rfl (hown) (fun _ => by first | exact .here | exact .headR | exact .app | exact .tail .here | exact .tail .headR | exact .tail .app | exact .tail (.tail .here) | exact .tail (.tail .headR) | exact .tail (.tail .app) | exact .tail (.tail (.tail .here)) | exact .tail (.tail (.tail .headR)) | exact .tail (.tail (.tail .app)) | exact .tail (.tail (.tail (.tail .here))) | exact .tail (.tail (.tail (.tail .headR))) | exact .tail (.tail (.tail (.tail .app))) | exact .tail (.tail (.tail (.tail (.tail .here)))) | exact .tail (.tail (.tail (.tail (.tail .headR)))) | exact .tail (.tail (.tail (.tail (.tail .app)))) | exact .appr .here | exact .appr .headR | exact .appr .app | exact .tail (.appr .here) | exact .tail (.appr .headR) | exact .tail (.appr .app) | exact .tail (.tail (.appr .here)) | exact .tail (.tail (.appr .headR)) | exact .tail (.tail (.appr .app)) | exact .appr (.tail .here) | exact .appr (.tail .headR) | exact .appr (.tail .app) | exact .appr (.tail (.tail .here)) | exact .appr (.tail (.tail .headR)) | exact .appr (.tail (.tail .app)) | exact .appr (.appr .here) | exact .appr (.appr .headR) | exact .appr (.appr .app) | exact .tail (.appr (.appr .here)) | exact .tail (.appr (.appr .headR)) | exact .tail (.appr (.appr .app)) | exact .appr (.appr (.tail .here)) | exact .appr (.appr (.tail .headR)) | exact .appr (.appr (.tail .app)) | exact .appr (.appr (.appr .here)) | exact .appr (.appr (.appr .headR)) | exact .appr (.appr (.appr .app))) (brings_slice ksl37 (sees_row (hpre.2 _ hmem)) (by rw [List.length_map, hpk.1, Nat.mul_one]) (one_map (fun _ => rfl) _)) (by omega) (fun ba26 c26 N26 hown26 => ?_))
        refine gl_cons (gs_val (val_assign rfl) rfl rfl rfl ?_)
        refine gl_nil ?_
        refine gk_seq ?_
        refine gc_seq ?_
        refine gc_seq ?_
        refine gc_region ?_
        refine gl_cons (gs_val (val_move rfl) rfl rfl rfl ?_)
        refine gl_cons (gs_val (val_lenSli ksl37 rfl) rfl rfl rfl ?_)
        refine gl_cons (gs_val (val_gtr rfl rfl) rfl rfl rfl ?_)
        refine gl_nil ?_
        refine gk_seq ?_
        refine gc_if rfl (fun h29 => ?_) (fun h29 => ?_)
        · skip
          refine gc_seq ?_
          refine gc_region ?_
          refine gl_cons (gs_val (val_assign rfl) rfl rfl rfl ?_)
          refine gl_nil ?_
          refine gk_seq ?_
          refine gc_ret ?_
          refine gk_seq_ret ?_
          refine gk_block_ret ?_
          refine gk_seq_ret ?_
          refine gk_loop_ret ?_
          refine gk_block_ret ?_
          refine gk_seq_ret ?_
          refine gk_ret rfl (resv_tmp rfl .nil) (List.nil_sublist _) ?_
          exact ⟨rfl, rfl⟩
        · have hle : (joined (l.take k)).length + l[k].2.1 ≤ 1000 := by omega
          refine gc_skip ?_
          refine gk_seq ?_
          refine gc_seq ?_
          refine gc_region ?_
          refine gl_cons (gs_val (val_move rfl) rfl rfl rfl ?_)
          refine gl_cons (gs_val (val_move rfl) rfl rfl rfl ?_)
          refine gl_cons (gs_turns (enters kcall56 (.cons rfl (.cons rfl .nil))) (write_spec b3 wa l[k].1 (joined (l.take k)).length wc l[k].2.1 l[k].2.2.1 (joined (l.take k)) l[k].2.2.2 M hwr hpk.1 (by omega)) rfl rfl rfl (.cons .head .app) (row_of_rowL (hpre.2 _ hmem) (.cons .head (.app (R := N26)))) (fun ⟨wa32, wc32, M32⟩ h32 => ?_))
          refine gx_perm (M := ⟨b3, .cells [.slice wa32 ((joined (l.take k)).length + l[k].2.1) wc32].toArray 156 (0, 0)⟩ :: (M32 ++ N26)) (.refl _) ?_
          have hw32 : Own 5 1 wa32 ((joined (l.take k)).length + l[k].2.1) wc32 (((joined (l.take k)) ++ l[k].2.2.2).map U8) M32 := h32
          have hlenJ : ((joined (l.take k)) ++ l[k].2.2.2).length = (joined (l.take k)).length + l[k].2.1 := by rw [List.length_append, hpk.1]
          refine gl_nil ?_
          refine gk_seq ?_
          refine gc_seq ?_
          refine gc_region ?_
          refine gl_cons (gs_val (val_move rfl) rfl rfl rfl ?_)
          refine gl_cons (gs_pure (enters kcall57 (.cons rfl .nil)) (sum_spec b3 wa32 ((joined (l.take k)).length + l[k].2.1) wc32 ((joined (l.take k)) ++ l[k].2.2.2) hlenJ (by omega) hw32.cap) rfl rfl rfl (fun w hi => ⟨row_of_sees (sees_mem (by repeat (first | exact .head _ | refine .tail _ ?_ | refine List.mem_append_right _ ?_))) w hi, row_of_sees (hw32.look (by repeat (first | exact .here | exact .headR | exact .app | refine .tail ?_ | refine .appr ?_))) w hi⟩) ?_)
          refine gl_cons (gs_val (val_move rfl) rfl rfl rfl ?_)
          refine gl_cons (gs_pure (enters kcall51 (.cons rfl .nil)) (of_spec ba26 ((joined (l.take k)).length + l[k].2.1) c26 ((joined (l.take k)) ++ l[k].2.2.2) hlenJ (by omega) hown26.cap) rfl rfl rfl (row_of_sees ((hown26.look (by repeat (first | exact .here | exact .headR | exact .app | refine .tail ?_ | refine .appr ?_))).cast (by rw [List.map_append]))) ?_)
          refine gl_cons (gs_val (val_no (val_neqDig kdig24 rfl rfl rfl rfl) (fun h => h rfl)) rfl rfl rfl ?_)
          refine gl_cons (gs_val (val_move rfl) rfl rfl rfl ?_)
          refine gl_cons (gs_val (val_move rfl) rfl rfl rfl ?_)
          refine gl_cons (gs_pure (enters kcall57 (.cons rfl .nil)) (sum_spec b3 wa32 ((joined (l.take k)).length + l[k].2.1) wc32 ((joined (l.take k)) ++ l[k].2.2.2) hlenJ (by omega) hw32.cap) rfl rfl rfl (fun w hi => ⟨row_of_sees (sees_mem (by repeat (first | exact .head _ | refine .tail _ ?_ | refine List.mem_append_right _ ?_))) w hi, row_of_sees (hw32.look (by repeat (first | exact .here | exact .headR | exact .app | refine .tail ?_ | refine .appr ?_))) w hi⟩) ?_)
          refine gl_cons (gs_val (val_move rfl) rfl rfl rfl ?_)
          refine gl_cons (gs_pure (enters kcall57 (.cons rfl .nil)) (sum_spec b3 wa32 ((joined (l.take k)).length + l[k].2.1) wc32 ((joined (l.take k)) ++ l[k].2.2.2) hlenJ (by omega) hw32.cap) rfl rfl rfl (fun w hi => ⟨row_of_sees (sees_mem (by repeat (first | exact .head _ | refine .tail _ ?_ | refine List.mem_append_right _ ?_))) w hi, row_of_sees (hw32.look (by repeat (first | exact .here | exact .headR | exact .app | refine .tail ?_ | refine .appr ?_))) w hi⟩) ?_)
          refine gl_cons (gs_val (val_no (val_neqDig kdig24 rfl rfl rfl rfl) (fun h => h rfl)) rfl rfl rfl ?_)
          refine gl_cons (gs_val (val_pick_f rfl rfl) rfl rfl rfl ?_)
          refine gl_nil ?_
          refine gk_seq ?_
          refine gc_false rfl ?_
          refine gc_skip ?_
          refine gk_block ?_
          refine gk_seq ?_
          refine gc_region ?_
          refine gl_cons (gs_val (val_addI rfl rfl (by omega)) rfl rfl rfl ?_)
          refine gl_cons (gs_val (val_move rfl) rfl rfl rfl ?_)
          refine gl_nil ?_
          have hs := joined_snoc l k hk
          have hsl : (joined (l.take (k + 1))).length = (joined (l.take k)).length + l[k].2.1 := by rw [hs, hlenJ]
          refine gk_again (k + 1, (ba26, c26, N26), (wa32, wc32, M32)) ?_ ?_ ?_ ?_
          · exact ⟨by show k + 1 ≤ l.length; omega, by show (joined (l.take (k + 1))).length ≤ 1000; omega, by show Own 5 1 ba26 (joined (l.take (k + 1))).length c26 ((joined (l.take (k + 1))).map U8) N26; rw [hsl, hs, List.map_append]; exact hown26, by show Own 5 1 wa32 (joined (l.take (k + 1))).length wc32 ((joined (l.take (k + 1))).map U8) M32; rw [hsl, hs]; exact hw32⟩
          · show l.length - (k + 1) < l.length - k; omega
          · exact (.cons (rfl) (.cons (congrArg (fun z => some (Value.slice ba26 z c26)) hsl.symm) (.cons (rfl) (.cons (rfl) (.cons (rfl) .nil)))))
          · show ∀ w, _ → Inv _ _ (⟨b3, .cells [.slice wa32 (joined (l.take (k + 1))).length wc32].toArray 156 (0, 0)⟩ :: (M32 ++ N26)) w; rw [hsl]; exact fun _ h => h
      · have e : k = l.length := by omega
        subst e
        rw [List.take_length] at hj hown hwr ⊢
        refine gc_exit ?_
        refine gk_seq_exit ?_
        refine gk_loop_exit ?_
        refine gk_block_exit ?_
        refine gk_seq ?_
        refine gc_seq ?_
        refine gc_region ?_
        refine gl_cons (gs_val (val_move rfl) rfl rfl rfl ?_)
        refine gl_cons (gs_pure (enters kcall57 (.cons rfl .nil)) (sum_spec b3 wa _ wc (joined l) rfl (by omega) hwr.cap) rfl rfl rfl (fun w hi => ⟨row_of_sees (sees_mem (by repeat (first | exact .head _ | refine .tail _ ?_ | refine List.mem_append_right _ ?_))) w hi, row_of_sees (hwr.look (by repeat (first | exact .here | exact .headR | exact .app | refine .tail ?_ | refine .appr ?_))) w hi⟩) ?_)
        refine gl_cons (gs_val (val_move rfl) rfl rfl rfl ?_)
        refine gl_cons (gs_pure (enters kcall51 (.cons rfl .nil)) (of_spec ba' _ c' (joined l) rfl (by omega) hown.cap) rfl rfl rfl (row_of_sees (hown.look (by repeat (first | exact .here | exact .headR | exact .app | refine .tail ?_ | refine .appr ?_)))) ?_)
        refine gl_cons (gs_val (val_yes (val_eqlDig kdig24 rfl rfl rfl rfl) rfl) rfl rfl rfl ?_)
        refine gl_cons (gs_val (val_assign rfl) rfl rfl rfl ?_)
        refine gl_nil ?_
        refine gk_seq ?_
        refine gc_ret ?_
        refine gk_ret rfl (resv_tmp rfl .nil) (List.nil_sublist _) ?_
        exact ⟨rfl, rfl⟩

/-- baize/baizelaw02.HashSame -/
theorem hashSame_walk (ba bb bm : Option Addr) (n m q ca cb cm : Nat) (l r mo : List UInt8) (cut : Int) (hn : l.length = n) (hm : r.length = m) (hq : mo.length = q) (hca : n ≤ ca) (h0 : 0 ≤ cut) (h1 : cut ≤ 65535) : Pure Try.prog 9 ([.slice ba n ca, .slice bb m cb, .int .u16 cut, .slice bm q cm]).toArray (fun w => Row w [] ba (l.map U8) ∧ Row w [] bb (r.map U8) ∧ Row w [] bm (mo.map U8)) (.bool true) := by
  obtain ⟨k, hk, hkn⟩ := emod_len cut n
  have hT : (l.take k).length = k := by rw [List.length_take]; omega
  have hD : (l.drop k).length = n - k := by rw [List.length_drop, hn]
  refine spec_walk (n := 122) Try.func9 rfl rfl rfl (fun w0 hpre => ?_)
  have hrt : Row w0 [] ba ((l.take k).map U8) := by rw [List.map_take]; exact hpre.1.take k
  have hrd : Row w0 [] (sl ba ca k 1) ((l.drop k).map U8) := by have := hpre.1.sl (cap := ca) (l := k) (size := 1) (by simp; omega); rw [Nat.mul_one, ← List.map_drop] at this; exact this
  refine gc_seq ?_
  refine gc_region ?_
  refine gl_cons (gs_val (val_assign rfl) rfl rfl rfl ?_)
  refine gl_nil ?_
  refine gk_seq ?_
  refine gc_seq ?_
  refine gc_seq ?_
  refine gc_region ?_
  refine gl_cons (gs_pure (enters kcall35 .nil) (known02_spec) rfl rfl rfl (fun _ _ => trivial) ?_)
  refine gl_cons (gs_val (val_not rfl) rfl rfl rfl ?_)
  refine gl_cons (gs_val (val_move rfl) rfl rfl rfl ?_)
  refine gl_cons (gs_val (val_move rfl) rfl rfl rfl ?_)
  refine gl_cons (gs_val (val_lenSli ksl37 rfl) rfl rfl rfl ?_)
  refine gl_cons (gs_val (val_gtr rfl rfl) rfl rfl rfl ?_)
  refine gl_cons (gs_val (val_pick_f rfl rfl) rfl rfl rfl ?_)
  refine gl_cons (gs_val (val_move rfl) rfl rfl rfl ?_)
  refine gx_split 20 rfl (fun h20 => ?_) (fun h20 => ?_)
  · skip
    refine gl_cons (gs_skip rfl rfl rfl ?_)
    refine gl_cons (gs_skip rfl rfl rfl ?_)
    refine gl_cons (gs_skip rfl rfl rfl ?_)
    refine gl_cons (gs_val (val_pick_t rfl rfl) rfl rfl rfl ?_)
    refine gl_cons (gs_val (val_move rfl) rfl rfl rfl ?_)
    refine gl_cons (gs_skip rfl rfl rfl ?_)
    refine gl_cons (gs_skip rfl rfl rfl ?_)
    refine gl_cons (gs_skip rfl rfl rfl ?_)
    refine gl_cons (gs_val (val_pick_t rfl rfl) rfl rfl rfl ?_)
    refine gl_nil ?_
    refine gk_seq ?_
    refine gc_true rfl ?_
    refine gc_seq ?_
    refine gc_region ?_
    refine gl_cons (gs_pure (enters kcall35 .nil) (known02_spec) rfl rfl rfl (fun _ _ => trivial) ?_)
    refine gl_cons (gs_val (val_assign rfl) rfl rfl rfl ?_)
    refine gl_nil ?_
    refine gk_seq ?_
    refine gc_ret ?_
    refine gk_seq_ret ?_
    refine gk_ret rfl (resv_tmp rfl .nil) (List.nil_sublist _) ?_
    exact ⟨rfl, rfl⟩
  · skip
    refine gl_cons (gs_val (val_move rfl) rfl rfl rfl ?_)
    refine gl_cons (gs_val (val_lenSli ksl37 rfl) rfl rfl rfl ?_)
    refine gl_cons (gs_val (val_gtr rfl rfl) rfl rfl rfl ?_)
    refine gl_cons (gs_val (val_pick_f rfl rfl) rfl rfl rfl ?_)
    refine gl_cons (gs_val (val_move rfl) rfl rfl rfl ?_)
    refine gx_split 25 rfl (fun h25 => ?_) (fun h25 => ?_)
    · skip
      refine gl_cons (gs_skip rfl rfl rfl ?_)
      refine gl_cons (gs_skip rfl rfl rfl ?_)
      refine gl_cons (gs_skip rfl rfl rfl ?_)
      refine gl_cons (gs_val (val_pick_t rfl rfl) rfl rfl rfl ?_)
      refine gl_nil ?_
      refine gk_seq ?_
      refine gc_true rfl ?_
      refine gc_seq ?_
      refine gc_region ?_
      refine gl_cons (gs_pure (enters kcall35 .nil) (known02_spec) rfl rfl rfl (fun _ _ => trivial) ?_)
      refine gl_cons (gs_val (val_assign rfl) rfl rfl rfl ?_)
      refine gl_nil ?_
      refine gk_seq ?_
      refine gc_ret ?_
      refine gk_seq_ret ?_
      refine gk_ret rfl (resv_tmp rfl .nil) (List.nil_sublist _) ?_
      exact ⟨rfl, rfl⟩
    · skip
      refine gl_cons (gs_val (val_move rfl) rfl rfl rfl ?_)
      refine gl_cons (gs_val (val_lenSli ksl37 rfl) rfl rfl rfl ?_)
      refine gl_cons (gs_val (val_gtr rfl rfl) rfl rfl rfl ?_)
      refine gl_cons (gs_val (val_pick_f rfl rfl) rfl rfl rfl ?_)
      refine gl_nil ?_
      refine gk_seq ?_
      refine gc_if rfl (fun h29 => ?_) (fun h29 => ?_)
      · skip
        refine gc_seq ?_
        refine gc_region ?_
        refine gl_cons (gs_pure (enters kcall35 .nil) (known02_spec) rfl rfl rfl (fun _ _ => trivial) ?_)
        refine gl_cons (gs_val (val_assign rfl) rfl rfl rfl ?_)
        refine gl_nil ?_
        refine gk_seq ?_
        refine gc_ret ?_
        refine gk_seq_ret ?_
        refine gk_ret rfl (resv_tmp rfl .nil) (List.nil_sublist _) ?_
        exact ⟨rfl, rfl⟩
      · have hn4 : n ≤ 400 ∧ m ≤ 400 ∧ q ≤ 400 := by omega
        refine gc_skip ?_
        refine gk_seq ?_
        refine gc_seq ?_
        refine gc_region ?_
        refine gl_cons (gs_makes (enters kcall55 .nil) (newWriter_spec) rfl rfl rfl (fun _ _ => trivial) (fun bv _ => ?_))
        refine gl_cons (gs_makes (enters kcall55 .nil) (newWriter_spec) rfl rfl rfl (fun _ _ => trivial) (fun bw _ => ?_))
        refine gx_perm (M := [⟨bv, .cells [.slice none 0 0].toArray 156 (0, 0)⟩, ⟨bw, .cells [.slice none 0 0].toArray 156 (0, 0)⟩]) (by exact .swap _ _ []) ?_
        refine gl_cons (gs_val (val_assign rfl) rfl rfl rfl ?_)
        refine gl_cons (gs_val (val_assign rfl) rfl rfl rfl ?_)
        refine gl_nil ?_
        refine gk_seq ?_
        refine gc_seq ?_
        refine gc_seq ?_
        refine gc_region ?_
        refine gl_cons (gs_val (val_move rfl) rfl rfl rfl ?_)
        refine gl_cons (gs_val (val_eqlNil kun56 rfl rfl) rfl rfl rfl ?_)
        refine gl_cons (gs_val (val_move rfl) rfl rfl rfl ?_)
        refine gl_cons (gs_val (val_move rfl) rfl rfl rfl ?_)
        refine gl_cons (gs_val (val_eqlNil kun56 rfl rfl) rfl rfl rfl ?_)
        refine gl_cons (gs_val (val_pick_f rfl rfl) rfl rfl rfl ?_)
        refine gl_nil ?_
        refine gk_seq ?_
        refine gc_false rfl ?_
        refine gc_skip ?_
        refine gk_seq ?_
        refine gc_seq ?_
        refine gc_region ?_
        refine gl_cons (gs_val (val_move rfl) rfl rfl rfl ?_)
        refine gl_cons (gs_val (val_convI rfl kis31 kun3 (by omega)) rfl rfl rfl ?_)
        refine gl_cons (gs_val (val_move rfl) rfl rfl rfl ?_)
        refine gl_cons (gs_val (val_lenSli ksl37 rfl) rfl rfl rfl ?_)
        refine gl_cons (gs_val (val_addI rfl rfl (by omega)) rfl rfl rfl ?_)
        refine gl_cons (gs_val (val_cast (v := I64 (k : Int)) (val_remI rfl rfl (by omega)) (congrArg I64 hk)) rfl rfl rfl ?_)
        refine gl_cons (gs_val (val_assign rfl) rfl rfl rfl ?_)
        refine gl_nil ?_
        refine gk_seq ?_
        refine gc_seq ?_
        refine gc_region ?_
        refine gl_cons (gs_val (val_move rfl) rfl rfl rfl ?_)
        refine gl_cons (gs_val (val_move rfl) rfl rfl rfl ?_)
        refine gl_cons (gs_val (val_move rfl) rfl rfl rfl ?_)
        refine gl_cons (gs_val (val_sliceH (h := k) ksl37 rfl rfl rfl (by omega)) rfl rfl rfl ?_)
        refine gl_cons (gs_turns (enters kcall56 (.cons rfl (.cons rfl .nil))) (write_spec bv none ba 0 0 k ca [] (l.take k) [] .nil hT (by omega)) rfl rfl rfl (.cons .head (.nil (R := [⟨bw, .cells [.slice none 0 0].toArray 156 (0, 0)⟩]))) (row_of_rowL hrt (.cons .head (.nil (R := [⟨bw, .cells [.slice none 0 0].toArray 156 (0, 0)⟩])))) (fun ⟨va1, vc1, M1⟩ hv1 => ?_))
        refine gx_perm (M := ⟨bv, .cells [.slice va1 (0 + k) vc1].toArray 156 (0, 0)⟩ :: (M1 ++ [⟨bw, .cells [.slice none 0 0].toArray 156 (0, 0)⟩])) (.refl _) ?_
        refine gl_nil ?_
        refine gk_seq ?_
        refine gc_seq ?_
        refine gc_region ?_
        refine gl_cons (gs_val (val_move rfl) rfl rfl rfl ?_)
        refine gl_cons (gs_val (val_move rfl) rfl rfl rfl ?_)
        refine gl_cons (gs_val (val_move rfl) rfl rfl rfl ?_)
        refine gl_cons (gs_val (val_sliceL (l := k) ksl37 rfl rfl rfl (by omega)) rfl rfl rfl ?_)
        refine gl_cons (gs_turns (enters kcall56 (.cons rfl (.cons rfl .nil))) (write_spec bv va1 (sl ba ca k 1) (0 + k) vc1 (n - k) (ca - k) ([] ++ l.take k) (l.drop k) M1 hv1 hD (by omega)) rfl rfl rfl (.cons .head .app) (row_of_rowL hrd (.cons .head (.app (R := [⟨bw, .cells [.slice none 0 0].toArray 156 (0, 0)⟩])))) (fun ⟨va, vc, M2⟩ hv2 => ?_))
        have ek : 0 + k + (n - k) = n := by omega
        have hv : Own 5 1 va n vc (l.map U8) M2 := by have := hv2; rw [List.nil_append, List.take_append_drop, ek] at this; exact this
        refine gx_perm (M := ⟨bv, .cells [.slice va n vc].toArray 156 (0, 0)⟩ :: (M2 ++ [⟨bw, .cells [.slice none 0 0].toArray 156 (0, 0)⟩])) (by rw [ek]; exact .refl _) ?_
        refine gl_nil ?_
        refine gk_seq ?_
        refine gc_seq ?_
        refine gc_region ?_
        refine gl_cons (gs_val (val_move rfl) rfl rfl rfl ?_)
        refine gl_cons (gs_val (val_move rfl) rfl rfl rfl ?_)
        refine gl_cons (gs_turns (enters kcall56 (.cons rfl (.cons rfl .nil))) (write_spec bw none bb 0 0 m cb [] r [] .nil hm (by omega)) rfl rfl rfl (.tail (.appr (.here))) (row_of_rowL hpre.2.1 (.tail (.appr .here))) (fun ⟨wa, wc, M3⟩ hw3 => ?_))
        have hw : Own 5 1 wa m wc (r.map U8) M3 := by have := hw3; rw [List.nil_append, Nat.zero_add] at this; exact this
        refine gx_perm (M := ⟨bv, .cells [.slice va n vc].toArray 156 (0, 0)⟩ :: (M2 ++ (⟨bw, .cells [.slice wa m wc].toArray 156 (0, 0)⟩ :: M3))) (by rw [List.append_nil, Nat.zero_add]; exact List.perm_append_comm) ?_
        refine gl_nil ?_
        refine gk_seq ?_
        refine gc_seq ?_
        refine gc_seq ?_
        refine gc_region ?_
        refine gl_cons (gs_val (val_move rfl) rfl rfl rfl ?_)
        refine gl_cons (gs_val (val_move rfl) rfl rfl rfl ?_)
        refine gl_cons (gs_pure (enters kcall58 (.cons rfl (.cons rfl .nil))) (sameW_spec bv bw va wa n vc m wc l r hn (by omega) hv.cap hm (by omega) hw.cap) rfl rfl rfl (fun w hi => ⟨⟨row_of_sees (sees_mem (by repeat (first | exact .head _ | refine .tail _ ?_ | refine List.mem_append_right _ ?_))) w hi, row_of_sees (hv.look (by repeat (first | exact .here | exact .headR | exact .app | refine .tail ?_ | refine .appr ?_))) w hi⟩, ⟨row_of_sees (sees_mem (by repeat (first | exact .head _ | refine .tail _ ?_ | refine List.mem_append_right _ ?_))) w hi, row_of_sees (hw.look (by repeat (first | exact .here | exact .headR | exact .app | refine .tail ?_ | refine .appr ?_))) w hi⟩⟩) ?_)
        refine gl_cons (gs_val (val_move rfl) rfl rfl rfl ?_)
        refine gl_cons (gs_val (val_move rfl) rfl rfl rfl ?_)
        refine gl_cons (gs_pure (enters kcall44 (.cons rfl (.cons rfl .nil))) (same02_spec ba bb n m ca cb l r hn hm) rfl rfl rfl (fun w hi => ⟨row_of_sees (sees_row hpre.1) w hi, row_of_sees (sees_row hpre.2.1) w hi⟩) ?_)
        refine gl_cons (gs_val (val_cast (v := .bool false) (val_neqB kun4 rfl rfl) (congrArg Value.bool (bne_self_eq_false _))) rfl rfl rfl ?_)
        refine gl_cons (gs_val (val_move rfl) rfl rfl rfl ?_)
        refine gl_cons (gs_val (val_move rfl) rfl rfl rfl ?_)
        refine gl_cons (gs_val (val_move rfl) rfl rfl rfl ?_)
        refine gl_cons (gs_pure (enters kcall58 (.cons rfl (.cons rfl .nil))) (sameW_spec bw bv wa va m wc n vc r l hm (by omega) hw.cap hn (by omega) hv.cap) rfl rfl rfl (fun w hi => ⟨⟨row_of_sees (sees_mem (by repeat (first | exact .head _ | refine .tail _ ?_ | refine List.mem_append_right _ ?_))) w hi, row_of_sees (hw.look (by repeat (first | exact .here | exact .headR | exact .app | refine .tail ?_ | refine .appr ?_))) w hi⟩, ⟨row_of_sees (sees_mem (by repeat (first | exact .head _ | refine .tail _ ?_ | refine List.mem_append_right _ ?_))) w hi, row_of_sees (hv.look (by repeat (first | exact .here | exact .headR | exact .app | refine .tail ?_ | refine .appr ?_))) w hi⟩⟩) ?_)
        refine gl_cons (gs_val (val_move rfl) rfl rfl rfl ?_)
        refine gl_cons (gs_val (val_move rfl) rfl rfl rfl ?_)
        refine gl_cons (gs_pure (enters kcall44 (.cons rfl (.cons rfl .nil))) (same02_spec ba bb n m ca cb l r hn hm) rfl rfl rfl (fun w hi => ⟨row_of_sees (sees_row hpre.1) w hi, row_of_sees (sees_row hpre.2.1) w hi⟩) ?_)
        refine gl_cons (gs_val (val_cast (v := .bool false) (val_neqB kun4 rfl rfl) (congrArg Value.bool (dec_swap l r))) rfl rfl rfl ?_)
        refine gl_cons (gs_val (val_pick_f rfl rfl) rfl rfl rfl ?_)
        refine gl_cons (gs_val (val_move rfl) rfl rfl rfl ?_)
        refine gl_cons (gs_val (val_move rfl) rfl rfl rfl ?_)
        refine gl_cons (gs_val (val_move rfl) rfl rfl rfl ?_)
        refine gl_cons (gs_pure (enters kcall58 (.cons rfl (.cons rfl .nil))) (sameW_spec bv bv va va n vc n vc l l hn (by omega) hv.cap hn (by omega) hv.cap) rfl rfl rfl (fun w hi => ⟨⟨row_of_sees (sees_mem (by repeat (first | exact .head _ | refine .tail _ ?_ | refine List.mem_append_right _ ?_))) w hi, row_of_sees (hv.look (by repeat (first | exact .here | exact .headR | exact .app | refine .tail ?_ | refine .appr ?_))) w hi⟩, ⟨row_of_sees (sees_mem (by repeat (first | exact .head _ | refine .tail _ ?_ | refine List.mem_append_right _ ?_))) w hi, row_of_sees (hv.look (by repeat (first | exact .here | exact .headR | exact .app | refine .tail ?_ | refine .appr ?_))) w hi⟩⟩) ?_)
        refine gl_cons (gs_val (val_no (val_not_dec rfl) (fun h => h rfl)) rfl rfl rfl ?_)
        refine gl_cons (gs_val (val_pick_f rfl rfl) rfl rfl rfl ?_)
        refine gl_cons (gs_val (val_move rfl) rfl rfl rfl ?_)
        refine gl_cons (gs_val (val_move rfl) rfl rfl rfl ?_)
        refine gl_cons (gs_pure (enters kcall58 (.cons rfl (.cons rfl .nil))) (sameW_wn bv) rfl rfl rfl (fun _ _ => trivial) ?_)
        refine gl_cons (gs_val (val_pick_f rfl rfl) rfl rfl rfl ?_)
        refine gl_nil ?_
        refine gk_seq ?_
        refine gc_false rfl ?_
        refine gc_skip ?_
        refine gk_seq ?_
        refine gc_seq ?_
        refine gc_region ?_
        refine gl_cons (gs_val (val_move rfl) rfl rfl rfl ?_)
        refine gl_cons (gs_makes (enters kcall59 (.cons rfl .nil)) (cloneW_spec bv va n vc l hn (by omega)) rfl rfl rfl (fun w hi => ⟨row_of_sees (sees_mem (by repeat (first | exact .head _ | refine .tail _ ?_ | refine List.mem_append_right _ ?_))) w hi, row_of_sees (hv.look (by repeat (first | exact .here | exact .headR | exact .app | refine .tail ?_ | refine .appr ?_))) w hi⟩) (fun ⟨bc, xa, xc, M4⟩ hx4 => ?_))
        have hx : Own 5 1 xa n xc (l.map U8) M4 := hx4
        refine gx_perm (M := ⟨bc, .cells [.slice xa n xc].toArray 156 (0, 0)⟩ :: (M4 ++ (⟨bv, .cells [.slice va n vc].toArray 156 (0, 0)⟩ :: (M2 ++ (⟨bw, .cells [.slice wa m wc].toArray 156 (0, 0)⟩ :: M3))))) (.refl _) ?_
        refine gl_cons (gs_val (val_assign rfl) rfl rfl rfl ?_)
        refine gl_nil ?_
        refine gk_seq ?_
        refine gc_seq ?_
        refine gc_seq ?_
        refine gc_region ?_
        refine gl_cons (gs_val (val_move rfl) rfl rfl rfl ?_)
        refine gl_cons (gs_val (val_eqlNil kun56 rfl rfl) rfl rfl rfl ?_)
        refine gl_cons (gs_val (val_move rfl) rfl rfl rfl ?_)
        refine gl_cons (gs_val (val_move rfl) rfl rfl rfl ?_)
        refine gl_cons (gs_val (val_move rfl) rfl rfl rfl ?_)
        refine gl_cons (gs_pure (enters kcall58 (.cons rfl (.cons rfl .nil))) (sameW_spec bc bv xa va n xc n vc l l hn (by omega) hx.cap hn (by omega) hv.cap) rfl rfl rfl (fun w hi => ⟨⟨row_of_sees (sees_mem (by repeat (first | exact .head _ | refine .tail _ ?_ | refine List.mem_append_right _ ?_))) w hi, row_of_sees (hx.look (by repeat (first | exact .here | exact .headR | exact .app | refine .tail ?_ | refine .appr ?_))) w hi⟩, ⟨row_of_sees (sees_mem (by repeat (first | exact .head _ | refine .tail _ ?_ | refine List.mem_append_right _ ?_))) w hi, row_of_sees (hv.look (by repeat (first | exact .here | exact .headR | exact .app | refine .tail ?_ | refine .appr ?_))) w hi⟩⟩) ?_)
        refine gl_cons (gs_val (val_no (val_not_dec rfl) (fun h => h rfl)) rfl rfl rfl ?_)
        refine gl_cons (gs_val (val_pick_f rfl rfl) rfl rfl rfl ?_)
        refine gl_nil ?_
        refine gk_seq ?_
        refine gc_false rfl ?_
        refine gc_skip ?_
        refine gk_seq ?_
        refine gc_seq ?_
        refine gc_region ?_
        refine gl_cons (gs_val (val_move rfl) rfl rfl rfl ?_)
        refine gl_cons (gs_val (val_move rfl) rfl rfl rfl ?_)
        refine gl_cons (gs_turns (enters kcall56 (.cons rfl (.cons rfl .nil))) (write_spec bc xa bm n xc q cm l mo M4 hx hq (by omega)) rfl rfl rfl (.cons .head .app) (row_of_rowL hpre.2.2 (.cons .head (.app (R := ⟨bv, .cells [.slice va n vc].toArray 156 (0, 0)⟩ :: (M2 ++ (⟨bw, .cells [.slice wa m wc].toArray 156 (0, 0)⟩ :: M3)))))) (fun ⟨ya, yc, M5⟩ hy5 => ?_))
        have hy : Own 5 1 ya (n + q) yc ((l ++ mo).map U8) M5 := hy5
        have hlm : (l ++ mo).length = n + q := by rw [List.length_append, hn, hq]
        refine gx_perm (M := ⟨bc, .cells [.slice ya (n + q) yc].toArray 156 (0, 0)⟩ :: (M5 ++ (⟨bv, .cells [.slice va n vc].toArray 156 (0, 0)⟩ :: (M2 ++ (⟨bw, .cells [.slice wa m wc].toArray 156 (0, 0)⟩ :: M3))))) (.refl _) ?_
        refine gl_nil ?_
        refine gk_seq ?_
        refine gc_seq ?_
        refine gc_region ?_
        refine gl_cons (gs_val (val_move rfl) rfl rfl rfl ?_)
        refine gl_cons (gs_val (val_move rfl) rfl rfl rfl ?_)
        refine gl_cons (gs_pure (enters kcall58 (.cons rfl (.cons rfl .nil))) (sameW_spec bc bv ya va (n + q) yc n vc (l ++ mo) l hlm (by omega) hy.cap hn (by omega) hv.cap) rfl rfl rfl (fun w hi => ⟨⟨row_of_sees (sees_mem (by repeat (first | exact .head _ | refine .tail _ ?_ | refine List.mem_append_right _ ?_))) w hi, row_of_sees (hy.look (by repeat (first | exact .here | exact .headR | exact .app | refine .tail ?_ | refine .appr ?_))) w hi⟩, ⟨row_of_sees (sees_mem (by repeat (first | exact .head _ | refine .tail _ ?_ | refine List.mem_append_right _ ?_))) w hi, row_of_sees (hv.look (by repeat (first | exact .here | exact .headR | exact .app | refine .tail ?_ | refine .appr ?_))) w hi⟩⟩) ?_)
        refine gl_cons (gs_val (val_move rfl) rfl rfl rfl ?_)
        refine gl_cons (gs_val (val_lenSli ksl37 rfl) rfl rfl rfl ?_)
        refine gl_cons (gs_val (val_eql rfl rfl) rfl rfl rfl ?_)
        refine gl_cons (gs_val (val_cast (v := .bool true) (val_eqlB kun4 rfl rfl) (congrArg Value.bool (dec_more l mo q hq))) rfl rfl rfl ?_)
        refine gl_cons (gs_val (val_move rfl) rfl rfl rfl ?_)
        refine gl_cons (gs_val (val_move rfl) rfl rfl rfl ?_)
        refine gl_cons (gs_pure (enters kcall57 (.cons rfl .nil)) (sum_spec bv va n vc l hn (by omega) hv.cap) rfl rfl rfl (fun w hi => ⟨row_of_sees (sees_mem (by repeat (first | exact .head _ | refine .tail _ ?_ | refine List.mem_append_right _ ?_))) w hi, row_of_sees (hv.look (by repeat (first | exact .here | exact .headR | exact .app | refine .tail ?_ | refine .appr ?_))) w hi⟩) ?_)
        refine gl_cons (gs_val (val_move rfl) rfl rfl rfl ?_)
        refine gl_cons (gs_pure (enters kcall51 (.cons rfl .nil)) (of_spec ba n ca l hn (by omega) hca) rfl rfl rfl (row_of_sees (sees_row hpre.1)) ?_)
        refine gl_cons (gs_val (val_yes (val_eqlDig kdig24 rfl rfl rfl rfl) rfl) rfl rfl rfl ?_)
        refine gl_cons (gs_val (val_pick_t rfl rfl) rfl rfl rfl ?_)
        refine gl_cons (gs_val (val_move rfl) rfl rfl rfl ?_)
        refine gl_cons (gs_val (val_move rfl) rfl rfl rfl ?_)
        refine gl_cons (gs_pure (enters kcall57 (.cons rfl .nil)) (sum_spec bc ya (n + q) yc (l ++ mo) hlm (by omega) hy.cap) rfl rfl rfl (fun w hi => ⟨row_of_sees (sees_mem (by repeat (first | exact .head _ | refine .tail _ ?_ | refine List.mem_append_right _ ?_))) w hi, row_of_sees (hy.look (by repeat (first | exact .here | exact .headR | exact .app | refine .tail ?_ | refine .appr ?_))) w hi⟩) ?_)
        refine gl_cons (gs_buildSlice (zs := []) ksl37 kze5 rfl rfl .nil .nil rfl rfl (fun b114 => ?_))
        refine gl_cons (gs_val (val_move rfl) rfl rfl rfl ?_)
        refine gl_cons (gs_append ksl37 kze5 rfl rfl rfl rfl rfl rfl (own_lit (xs := []) rfl) (fun _ => by first | exact .here | exact .headR | exact .app | exact .tail .here | exact .tail .headR | exact .tail .app | exact .tail (.tail .here) | exact .tail (.tail .headR) | exact .tail (.tail .app) | exact .tail (.tail (.tail .here)) | exact .tail (.tail (.tail .headR)) | exact .tail (.tail (.tail .app)) | exact .tail (.tail (.tail (.tail .here))) | exact .tail (.tail (.tail (.tail .headR))) | exact .tail (.tail (.tail (.tail .app))) | exact .tail (.tail (.tail (.tail (.tail .here)))) | exact .tail (.tail (.tail (.tail (.tail .headR)))) | exact .tail (.tail (.tail (.tail (.tail .app)))) | exact .appr .here | exact .appr .headR | exact .appr .app | exact .tail (.appr .here) | exact .tail (.appr .headR) | exact .tail (.appr .app) | exact .tail (.tail (.appr .here)) | exact .tail (.tail (.appr .headR)) | exact .tail (.tail (.appr .app)) | exact .appr (.tail .here) | exact .appr (.tail .headR) | exact .appr (.tail .app) | exact .appr (.tail (.tail .here)) | exact .appr (.tail (.tail .headR)) | exact .appr (.tail (.tail .app)) | exact .appr (.appr .here) | exact .appr (.appr .headR) | exact .appr (.appr .app) | exact .tail (.appr (.appr .here)) | exact .tail (.appr (.appr .headR)) | exact .tail (.appr (.appr .app)) | exact .appr (.appr (.tail .here)) | exact .appr (.appr (.tail .headR)) | exact .appr (.appr (.tail .app)) | exact .appr (.appr (.appr .here)) | exact .appr (.appr (.appr .headR)) | exact .appr (.appr (.appr .app))) (brings_slice ksl37 (sees_row hpre.1) (by rw [List.length_map, hn, Nat.mul_one]) (one_map (fun _ => rfl) _)) (by omega) (fun ba116 c116 N116 hown116 => ?_))
        refine gl_cons (gs_val (val_move rfl) rfl rfl rfl ?_)
        refine gl_cons (gs_append ksl37 kze5 rfl rfl rfl rfl rfl rfl (hown116) (fun _ => by first | exact .here | exact .headR | exact .app | exact .tail .here | exact .tail .headR | exact .tail .app | exact .tail (.tail .here) | exact .tail (.tail .headR) | exact .tail (.tail .app) | exact .tail (.tail (.tail .here)) | exact .tail (.tail (.tail .headR)) | exact .tail (.tail (.tail .app)) | exact .tail (.tail (.tail (.tail .here))) | exact .tail (.tail (.tail (.tail .headR))) | exact .tail (.tail (.tail (.tail .app))) | exact .tail (.tail (.tail (.tail (.tail .here)))) | exact .tail (.tail (.tail (.tail (.tail .headR)))) | exact .tail (.tail (.tail (.tail (.tail .app)))) | exact .appr .here | exact .appr .headR | exact .appr .app | exact .tail (.appr .here) | exact .tail (.appr .headR) | exact .tail (.appr .app) | exact .tail (.tail (.appr .here)) | exact .tail (.tail (.appr .headR)) | exact .tail (.tail (.appr .app)) | exact .appr (.tail .here) | exact .appr (.tail .headR) | exact .appr (.tail .app) | exact .appr (.tail (.tail .here)) | exact .appr (.tail (.tail .headR)) | exact .appr (.tail (.tail .app)) | exact .appr (.appr .here) | exact .appr (.appr .headR) | exact .appr (.appr .app) | exact .tail (.appr (.appr .here)) | exact .tail (.appr (.appr .headR)) | exact .tail (.appr (.appr .app)) | exact .appr (.appr (.tail .here)) | exact .appr (.appr (.tail .headR)) | exact .appr (.appr (.tail .app)) | exact .appr (.appr (.appr .here)) | exact .appr (.appr (.appr .headR)) | exact .appr (.appr (.appr .app))) (brings_slice ksl37 (sees_row hpre.2.2) (by rw [List.length_map, hq, Nat.mul_one]) (one_map (fun _ => rfl) _)) (by omega) (fun ba118 c118 N118 hown118 => ?_))
        refine gl_cons (gs_pure (enters kcall51 (.cons rfl .nil)) (of_spec ba118 (0 + n + q) c118 (l ++ mo) (by rw [hlm, Nat.zero_add]) (by omega) hown118.cap) rfl rfl rfl (row_of_sees ((hown118.look (by repeat (first | exact .here | exact .headR | exact .app | refine .tail ?_ | refine .appr ?_))).cast (by rw [List.nil_append, List.map_append]))) ?_)
        refine gl_cons (gs_val (val_yes (val_eqlDig kdig24 rfl rfl rfl rfl) rfl) rfl rfl rfl ?_)
        refine gl_cons (gs_val (val_pick_t rfl rfl) rfl rfl rfl ?_)
        refine gl_cons (gs_val (val_assign rfl) rfl rfl rfl ?_)
        refine gl_nil ?_
        refine gk_seq ?_
        refine gc_ret ?_
        refine gk_ret rfl (resv_tmp rfl .nil) (List.nil_sublist _) ?_
        exact ⟨rfl, rfl⟩

/-- baize/baizelaw02.HashKeeps -/
theorem hashKeeps_walk (ba : Option Addr) (n cap : Nat) (l : List UInt8) (x : BitVec 64) (y : UInt8) (hn : l.length = n) (hcap : n ≤ cap) : Pure Try.prog 10 ([.slice ba n cap, Dig x, U8 y]).toArray (fun w => Row w [] ba (l.map U8)) (.bool true) := by
  have hslen : (hStreamI x ((y.toNat : Nat) : Int)).length ≤ 255 := by rw [hStreamI_len]; have := y.toNat_lt; split <;> omega
  have hz : 0 + n = n := Nat.zero_add n
  have hy := y.toNat_lt
  refine spec_walk (n := 104) Try.func10 rfl rfl rfl (fun w0 hpre => ?_)
  refine gc_seq ?_
  refine gc_region ?_
  refine gl_cons (gs_box rfl rfl rfl rfl (fun b4 => ?_))
  refine gl_cons (gs_val (val_assign rfl) rfl rfl rfl ?_)
  refine gl_nil ?_
  refine gk_seq ?_
  refine gc_seq ?_
  refine gc_seq ?_
  refine gc_region ?_
  refine gl_cons (gs_pure (enters kcall35 .nil) (known02_spec) rfl rfl rfl (fun _ _ => trivial) ?_)
  refine gl_cons (gs_val (val_not rfl) rfl rfl rfl ?_)
  refine gl_cons (gs_val (val_move rfl) rfl rfl rfl ?_)
  refine gl_cons (gs_val (val_move rfl) rfl rfl rfl ?_)
  refine gl_cons (gs_val (val_lenSli ksl37 rfl) rfl rfl rfl ?_)
  refine gl_cons (gs_val (val_gtr rfl rfl) rfl rfl rfl ?_)
  refine gl_cons (gs_val (val_pick_f rfl rfl) rfl rfl rfl ?_)
  refine gl_nil ?_
  refine gk_seq ?_
  refine gc_if rfl (fun h20 => ?_) (fun h20 => ?_)
  · skip
    refine gc_seq ?_
    refine gc_region ?_
    refine gl_cons (gs_pure (enters kcall35 .nil) (known02_spec) rfl rfl rfl (fun _ _ => trivial) ?_)
    refine gl_cons (gs_val (val_assign rfl) rfl rfl rfl ?_)
    refine gl_nil ?_
    refine gk_seq ?_
    refine gc_ret ?_
    refine gk_seq_ret ?_
    refine gk_ret rfl (resv_tmp rfl .nil) (List.nil_sublist _) ?_
    exact ⟨rfl, rfl⟩
  · have hn4 : n ≤ 400 := by omega
    refine gc_skip ?_
    refine gk_seq ?_
    refine gc_seq ?_
    refine gc_region ?_
    refine gl_cons (gs_buildSlice (zs := []) ksl37 kze5 rfl rfl .nil .nil rfl rfl (fun b22 => ?_))
    refine gl_cons (gs_val (val_move rfl) rfl rfl rfl ?_)
    refine gl_cons (gs_append ksl37 kze5 rfl rfl rfl rfl rfl rfl (own_lit (xs := []) rfl) (fun _ => by first | exact .here | exact .headR | exact .app | exact .tail .here | exact .tail .headR | exact .tail .app | exact .tail (.tail .here) | exact .tail (.tail .headR) | exact .tail (.tail .app) | exact .tail (.tail (.tail .here)) | exact .tail (.tail (.tail .headR)) | exact .tail (.tail (.tail .app)) | exact .tail (.tail (.tail (.tail .here))) | exact .tail (.tail (.tail (.tail .headR))) | exact .tail (.tail (.tail (.tail .app))) | exact .tail (.tail (.tail (.tail (.tail .here)))) | exact .tail (.tail (.tail (.tail (.tail .headR)))) | exact .tail (.tail (.tail (.tail (.tail .app)))) | exact .appr .here | exact .appr .headR | exact .appr .app | exact .tail (.appr .here) | exact .tail (.appr .headR) | exact .tail (.appr .app) | exact .tail (.tail (.appr .here)) | exact .tail (.tail (.appr .headR)) | exact .tail (.tail (.appr .app)) | exact .appr (.tail .here) | exact .appr (.tail .headR) | exact .appr (.tail .app) | exact .appr (.tail (.tail .here)) | exact .appr (.tail (.tail .headR)) | exact .appr (.tail (.tail .app)) | exact .appr (.appr .here) | exact .appr (.appr .headR) | exact .appr (.appr .app) | exact .tail (.appr (.appr .here)) | exact .tail (.appr (.appr .headR)) | exact .tail (.appr (.appr .app)) | exact .appr (.appr (.tail .here)) | exact .appr (.appr (.tail .headR)) | exact .appr (.appr (.tail .app)) | exact .appr (.appr (.appr .here)) | exact .appr (.appr (.appr .headR)) | exact .appr (.appr (.appr .app))) (brings_slice ksl37 (sees_row hpre) (by rw [List.length_map, hn, Nat.mul_one]) (one_map (fun _ => rfl) _)) (by omega) (fun ba24 c24 N24 hown24 => ?_))
    have hown : Own 5 1 ba24 n c24 (l.map U8) N24 := by have := hown24; rw [hz, List.nil_append] at this; exact this
    refine gl_cons (gs_val (val_assign rfl) rfl rfl rfl ?_)
    refine gl_nil ?_
    refine gk_seq ?_
    refine gc_seq ?_
    refine gc_region ?_
    refine gl_cons (gs_makes (enters kcall55 .nil) (newWriter_spec) rfl rfl rfl (fun _ _ => trivial) (fun bw _ => ?_))
    refine gl_cons (gs_val (val_assign rfl) rfl rfl rfl ?_)
    refine gl_nil ?_
    refine gk_seq ?_
    refine gc_seq ?_
    refine gc_seq ?_
    refine gc_region ?_
    refine gl_cons (gs_val (val_move rfl) rfl rfl rfl ?_)
    refine gl_cons (gs_val (val_eqlNil kun56 rfl rfl) rfl rfl rfl ?_)
    refine gl_nil ?_
    refine gk_seq ?_
    refine gc_false rfl ?_
    refine gc_skip ?_
    refine gk_seq ?_
    refine gc_seq ?_
    refine gc_region ?_
    refine gl_cons (gs_val (val_move rfl) rfl rfl rfl ?_)
    refine gl_cons (gs_val (val_move rfl) rfl rfl rfl ?_)
    refine gl_cons (gs_turns (enters kcall56 (.cons rfl (.cons rfl .nil))) (write_spec bw none ba24 0 0 (0 + n) c24 [] l [] .nil (by rw [hn, hz]) (by omega)) rfl rfl rfl (.cons .head (.nil (R := ⟨b4, .cells (digL x).toArray 22 (0, 0)⟩ :: N24))) (row_of_ownL hown (.cons .head (.nil (R := ⟨b4, .cells (digL x).toArray 22 (0, 0)⟩ :: N24))) (.tail .here)) (fun ⟨wa, c7, M⟩ hw7 => ?_))
    have hw : Own 5 1 wa n c7 (l.map U8) M := by have := hw7; rw [hz, hz, List.nil_append] at this; exact this
    refine gx_perm (M := ⟨bw, .cells [.slice wa n c7].toArray 156 (0, 0)⟩ :: (M ++ (⟨b4, .cells (digL x).toArray 22 (0, 0)⟩ :: N24))) (by rw [hz, hz]; exact .refl _) ?_
    refine gl_nil ?_
    refine gk_seq ?_
    refine gc_seq ?_
    refine gc_region ?_
    refine gl_cons (gs_val (val_move rfl) rfl rfl rfl ?_)
    refine gl_cons (gs_pure (enters kcall51 (.cons rfl .nil)) (of_spec ba24 (0 + n) c24 l (by rw [hn, hz]) (by omega) (by rw [hz]; exact hown.cap)) rfl rfl rfl (row_of_sees (hown.look (by repeat (first | exact .here | exact .headR | exact .app | refine .tail ?_ | refine .appr ?_)))) ?_)
    refine gl_cons (gs_alloc kze24 rfl rfl rfl (fun b9 => ?_))
    refine gl_cons (gs_store ksz24 rfl rfl rfl rfl rfl rfl (by first | exact .head | exact .tail .head | exact .tail (.tail .head) | exact .tail (.tail (.tail .head)) | exact .tail (.tail (.tail (.tail .head))) | exact .tail (.tail (.tail (.tail (.tail .head))))) (by simp) (by first | ((with_reducible refine splice_all _ _ ?_); simp; done) | (simp only [splice, stL, digL, List.take_succ_cons, List.take_zero, List.drop_succ_cons, List.drop_zero, List.length_cons, List.length_nil, Nat.reduceAdd, Nat.reduceMul, Nat.zero_add, Nat.zero_mul, List.cons_append, List.nil_append]; exact rfl)) ?_)
    refine gl_nil ?_
    refine gk_seq ?_
    refine gc_seq ?_
    refine gc_seq ?_
    refine gc_region ?_
    refine gl_cons (gs_val (val_move rfl) rfl rfl rfl ?_)
    refine gl_cons (gs_val (val_move rfl) rfl rfl rfl ?_)
    refine gl_cons (gs_pure (enters kcall44 (.cons rfl (.cons rfl .nil))) (same02_yes ba24 ba (0 + n) n c24 cap l l (by rw [hn, hz]) hn rfl) rfl rfl rfl (fun w hi => ⟨row_of_sees (hown.look (by repeat (first | exact .here | exact .headR | exact .app | refine .tail ?_ | refine .appr ?_))) w hi, row_of_sees (sees_row hpre) w hi⟩) ?_)
    refine gl_cons (gs_val (val_not rfl) rfl rfl rfl ?_)
    refine gl_nil ?_
    refine gk_seq ?_
    refine gc_false rfl ?_
    refine gc_skip ?_
    refine gk_seq ?_
    refine gc_seq ?_
    refine gc_seq ?_
    refine gc_region ?_
    refine gl_cons (gs_val (val_move rfl) rfl rfl rfl ?_)
    refine gl_cons (gs_val (val_lenSli ksl37 rfl) rfl rfl rfl ?_)
    refine gl_cons (gs_val (val_move rfl) rfl rfl rfl ?_)
    refine gl_nil ?_
    refine gk_seq ?_
    refine gc_block ?_
    refine gc_loop (σ := Nat × List Ent) (I := fun v => v.1 ≤ n ∧ Own 5 1 ba24 n c24 ((inc v.1 l).map U8) v.2) (μ := fun v => n - v.1) (EI := fun v => [(0, .slice ba n cap), (2, U8 y), (4, .pointer (some ⟨b4, 0, none⟩)), (7, .slice ba24 (0 + n) c24), (8, .pointer (some ⟨bw, 0, none⟩)), (9, .pointer (some ⟨b9, 0, none⟩)), (38, I64 ((0 + n : Nat) : Int)), (39, I64 (v.1 : Int))]) (LI := fun v => ⟨b9, .cells (digL (hOf l)).toArray 24 (0, 0)⟩ :: (⟨bw, .cells [.slice wa n c7].toArray 156 (0, 0)⟩ :: (M ++ (⟨b4, .cells (digL x).toArray 22 (0, 0)⟩ :: v.2)))) (0, N24) ?_ ?_ ?_ ?_
    · exact ⟨Nat.zero_le _, hown⟩
    · exact (.cons rfl (.cons rfl (.cons rfl (.cons rfl (.cons rfl (.cons rfl (.cons rfl (.cons rfl .nil))))))))
    · exact fun _ h => h
    · intro ⟨k, N⟩ ⟨hkl, hin⟩
      dsimp only
      have hkl : k ≤ n := hkl
      have hin : Own 5 1 ba24 n c24 ((inc k l).map U8) N := hin
      refine gc_seq ?_
      refine gc_region ?_
      refine gl_cons (gs_val (val_lss rfl rfl) rfl rfl rfl ?_)
      refine gl_nil ?_
      refine gk_seq ?_
      refine gc_seq ?_
      refine gc_if rfl (fun hk => ?_) (fun hk => ?_)
      · have hkn : k < n := by omega
        have hkl2 : k < l.length := by omega
        refine gc_skip ?_
        refine gk_seq ?_
        refine gc_seq ?_
        refine gc_block ?_
        refine gc_seq ?_
        refine gc_region ?_
        refine gl_cons (gs_val (val_move rfl) rfl rfl rfl ?_)
        refine gl_cons (gs_val (val_assign rfl) rfl rfl rfl ?_)
        refine gl_nil ?_
        refine gk_seq ?_
        refine gc_region ?_
        refine gl_cons (gs_val (val_move rfl) rfl rfl rfl ?_)
        refine gl_cons (gs_val (val_move rfl) rfl rfl rfl ?_)
        refine gl_cons (gs_val (val_indexSli ksl37 rfl rfl rfl (by omega) (hin.look (by repeat (first | exact .here | exact .headR | exact .app | refine .tail ?_ | refine .appr ?_))) (by (try simp only [List.length_map, Nat.mul_one, dig_len, inc_len]); omega)) rfl rfl rfl ?_)
        refine gl_cons (gs_val (val_load1 (v := U8 (l[k]'hkl2)) kag5 rfl ((hin.look (by repeat (first | exact .here | exact .headR | exact .app | refine .tail ?_ | refine .appr ?_))).part (k * 1)) (by rw [List.getElem?_drop, Nat.add_zero, Nat.mul_one, List.getElem?_map, inc_get _ k hkl2]; rfl)) rfl rfl rfl ?_)
        refine gl_cons (gs_val (val_add8 (j := 1) rfl rfl) rfl rfl rfl ?_)
        refine gl_cons (gs_val (val_indexSli ksl37 rfl rfl rfl (by omega) (hin.look (by repeat (first | exact .here | exact .headR | exact .app | refine .tail ?_ | refine .appr ?_))) (by (try simp only [List.length_map, Nat.mul_one, dig_len, inc_len]); omega)) rfl rfl rfl ?_)
        refine gl_cons (gs_storeOwn (m := k) (v := U8 (l[k]'hkl2 + 1)) ksz5 rfl rfl rfl rfl rfl hin (by rw [List.length_map, inc_len]; omega) (fun _ => .tail (.tail (.appr (.tail .here)))) (fun N2 hin2 => ?_))
        refine gl_nil ?_
        refine gk_block ?_
        refine gk_seq ?_
        refine gc_region ?_
        refine gl_cons (gs_val (val_addI rfl rfl (by omega)) rfl rfl rfl ?_)
        refine gl_cons (gs_val (val_move rfl) rfl rfl rfl ?_)
        refine gl_nil ?_
        refine gk_again (k + 1, N2) ?_ ?_ ?_ ?_
        · exact ⟨by show k + 1 ≤ n; omega, by show Own 5 1 ba24 n c24 ((inc (k + 1) l).map U8) N2; rw [← inc_set _ k hkl2]; exact hin2⟩
        · show n - (k + 1) < n - k; omega
        · exact (.cons (rfl) (.cons (rfl) (.cons (rfl) (.cons (rfl) (.cons (rfl) (.cons (rfl) (.cons (rfl) (.cons (rfl) .nil))))))))
        · exact fun _ h => h
      · have e : n = k := by omega
        subst e
        refine gc_exit ?_
        refine gk_seq_exit ?_
        refine gk_loop_exit ?_
        refine gk_block_exit ?_
        refine gk_seq ?_
        refine gc_seq ?_
        refine gc_region ?_
        refine gl_cons (gs_val (val_loadA kag22 rfl (sees_mem (by repeat (first | exact .head _ | refine .tail _ ?_ | refine List.mem_append_right _ ?_))) rfl rfl) rfl rfl rfl ?_)
        refine gl_cons (gs_val (val_move rfl) rfl rfl rfl ?_)
        refine gl_cons (gs_val (val_convI rfl kis5 kun3 (by omega)) rfl rfl rfl ?_)
        refine gl_cons (gs_makes (enters kcall43 (.cons rfl (.cons rfl .nil))) (stream_spec x _) rfl rfl rfl (fun _ _ => trivial) (fun ⟨ba52, c52, N52⟩ h52 => ?_))
        refine gl_cons (gs_val (val_assign rfl) rfl rfl rfl ?_)
        refine gl_nil ?_
        refine gk_seq ?_
        refine gc_seq ?_
        refine gc_seq ?_
        refine gc_region ?_
        refine gl_cons (gs_val (val_move rfl) rfl rfl rfl ?_)
        refine gl_cons (gs_val (val_lenSli ksl37 rfl) rfl rfl rfl ?_)
        refine gl_cons (gs_val (val_move rfl) rfl rfl rfl ?_)
        refine gl_nil ?_
        refine gk_seq ?_
        refine gc_block ?_
        refine gc_loop (σ := Nat × List Ent) (I := fun v => v.1 ≤ (hStreamI x ((y.toNat : Nat) : Int)).length ∧ Own 5 1 ba52 (hStreamI x ((y.toNat : Nat) : Int)).length c52 ((inc v.1 (hStreamI x ((y.toNat : Nat) : Int))).map U8) v.2) (μ := fun v => (hStreamI x ((y.toNat : Nat) : Int)).length - v.1) (EI := fun v => [(0, .slice ba n cap), (2, U8 y), (4, .pointer (some ⟨b4, 0, none⟩)), (8, .pointer (some ⟨bw, 0, none⟩)), (9, .pointer (some ⟨b9, 0, none⟩)), (11, .slice ba52 (hStreamI x ((y.toNat : Nat) : Int)).length c52), (54, I64 ((hStreamI x ((y.toNat : Nat) : Int)).length : Int)), (55, I64 (v.1 : Int))]) (LI := fun v => ⟨b9, .cells (digL (hOf l)).toArray 24 (0, 0)⟩ :: (⟨bw, .cells [.slice wa n c7].toArray 156 (0, 0)⟩ :: (M ++ (⟨b4, .cells (digL x).toArray 22 (0, 0)⟩ :: v.2)))) (0, N52) ?_ ?_ ?_ ?_
        · exact ⟨Nat.zero_le _, h52⟩
        · exact (.cons rfl (.cons rfl (.cons rfl (.cons rfl (.cons rfl (.cons rfl (.cons rfl (.cons rfl .nil))))))))
        · exact fun _ h => ((h.sub (List.Sublist.append_left (List.Sublist.cons_cons _ (List.Sublist.cons_cons _ (List.Sublist.append_left (List.Sublist.cons_cons _ (List.nil_sublist _)) _))) _)).perm List.perm_append_comm).perm (.cons _ (.cons _ (by show List.Perm ((M ++ [_]) ++ N52) (M ++ _ :: N52); rw [List.append_assoc]; exact .refl _)))
        · intro ⟨k, N⟩ ⟨hkl, hin⟩
          dsimp only
          have hkl : k ≤ (hStreamI x ((y.toNat : Nat) : Int)).length := hkl
          have hin : Own 5 1 ba52 (hStreamI x ((y.toNat : Nat) : Int)).length c52 ((inc k (hStreamI x ((y.toNat : Nat) : Int))).map U8) N := hin
          refine gc_seq ?_
          refine gc_region ?_
          refine gl_cons (gs_val (val_lss rfl rfl) rfl rfl rfl ?_)
          refine gl_nil ?_
          refine gk_seq ?_
          refine gc_seq ?_
          refine gc_if rfl (fun hk => ?_) (fun hk => ?_)
          · have hkn : k < (hStreamI x ((y.toNat : Nat) : Int)).length := by omega
            have hkl2 : k < (hStreamI x ((y.toNat : Nat) : Int)).length := hkn
            refine gc_skip ?_
            refine gk_seq ?_
            refine gc_seq ?_
            refine gc_block ?_
            refine gc_seq ?_
            refine gc_region ?_
            refine gl_cons (gs_val (val_move rfl) rfl rfl rfl ?_)
            refine gl_cons (gs_val (val_assign rfl) rfl rfl rfl ?_)
            refine gl_nil ?_
            refine gk_seq ?_
            refine gc_region ?_
            refine gl_cons (gs_val (val_move rfl) rfl rfl rfl ?_)
            refine gl_cons (gs_val (val_move rfl) rfl rfl rfl ?_)
            refine gl_cons (gs_val (val_indexSli ksl37 rfl rfl rfl (by omega) (hin.look (by repeat (first | exact .here | exact .headR | exact .app | refine .tail ?_ | refine .appr ?_))) (by (try simp only [List.length_map, Nat.mul_one, dig_len, inc_len]); omega)) rfl rfl rfl ?_)
            refine gl_cons (gs_val (val_load1 (v := U8 ((hStreamI x ((y.toNat : Nat) : Int))[k]'hkl2)) kag5 rfl ((hin.look (by repeat (first | exact .here | exact .headR | exact .app | refine .tail ?_ | refine .appr ?_))).part (k * 1)) (by rw [List.getElem?_drop, Nat.add_zero, Nat.mul_one, List.getElem?_map, inc_get _ k hkl2]; rfl)) rfl rfl rfl ?_)
            refine gl_cons (gs_val (val_add8 (j := 1) rfl rfl) rfl rfl rfl ?_)
            refine gl_cons (gs_val (val_indexSli ksl37 rfl rfl rfl (by omega) (hin.look (by repeat (first | exact .here | exact .headR | exact .app | refine .tail ?_ | refine .appr ?_))) (by (try simp only [List.length_map, Nat.mul_one, dig_len, inc_len]); omega)) rfl rfl rfl ?_)
            refine gl_cons (gs_storeOwn (m := k) (v := U8 ((hStreamI x ((y.toNat : Nat) : Int))[k]'hkl2 + 1)) ksz5 rfl rfl rfl rfl rfl hin (by rw [List.length_map, inc_len]; omega) (fun _ => .tail (.tail (.appr (.tail .here)))) (fun N2 hin2 => ?_))
            refine gl_nil ?_
            refine gk_block ?_
            refine gk_seq ?_
            refine gc_region ?_
            refine gl_cons (gs_val (val_addI rfl rfl (by omega)) rfl rfl rfl ?_)
            refine gl_cons (gs_val (val_move rfl) rfl rfl rfl ?_)
            refine gl_nil ?_
            refine gk_again (k + 1, N2) ?_ ?_ ?_ ?_
            · exact ⟨by show k + 1 ≤ (hStreamI x ((y.toNat : Nat) : Int)).length; omega, by show Own 5 1 ba52 (hStreamI x ((y.toNat : Nat) : Int)).length c52 ((inc (k + 1) (hStreamI x ((y.toNat : Nat) : Int))).map U8) N2; rw [← inc_set _ k hkl2]; exact hin2⟩
            · show (hStreamI x ((y.toNat : Nat) : Int)).length - (k + 1) < (hStreamI x ((y.toNat : Nat) : Int)).length - k; omega
            · exact (.cons (rfl) (.cons (rfl) (.cons (rfl) (.cons (rfl) (.cons (rfl) (.cons (rfl) (.cons (rfl) (.cons (rfl) .nil))))))))
            · exact fun _ h => h
          · skip
            refine gc_exit ?_
            refine gk_seq_exit ?_
            refine gk_loop_exit ?_
            refine gk_block_exit ?_
            refine gk_seq ?_
            refine gc_seq ?_
            refine gc_region ?_
            refine gl_cons (gs_val (val_assign rfl) rfl rfl rfl ?_)
            refine gl_nil ?_
            refine gk_seq ?_
            refine gc_seq ?_
            refine gc_region ?_
            refine gl_cons (gs_val (val_move rfl) rfl rfl rfl ?_)
            refine gl_cons (gs_val (val_move rfl) rfl rfl rfl ?_)
            refine gl_cons (gs_pure (enters kcall56 (.cons rfl (.cons rfl .nil))) (write_nil ba n cap) rfl rfl rfl (fun _ _ => trivial) ?_)
            refine gl_nil ?_
            refine gk_seq ?_
            refine gc_seq ?_
            refine ga_start (m := 37) (ls := [false, false, false, false, false, false, false, false, false, false, false, false, false, false, false, false, false, false, false, false, false, false, false, false, false, false, false, false, false, false, false, false, false, false, false, false, false]) kmixed rfl rfl ?_
            apply share3 (α := Option Addr) (β := Nat) (γ := List Ent) (m' := 25) (ls' := [true, true, true, true, true, true, true, true, true, true, true, true, false, false, false, false, false, false, false, false, false, false, false, false, false, false, false, false, false, false, false, false, false, false, false, false, false])
            · intro hD0
              apply share0  (m' := 26) (ls' := [true, true, true, true, true, true, true, true, false, true, true, true, false, false, false, false, false, false, false, false, false, false, false, false, false, false, false, false, false, false, false, false, false, false, false, false, false])
              · intro hD1
                apply share0  (m' := 28) (ls' := [true, true, true, true, true, false, true, true, false, false, true, true, false, false, false, false, false, false, false, false, false, false, false, false, false, false, false, false, false, false, false, false, false, false, false, false, false])
                · intro hD2
                  refine ga_take (i := 0) (ls' := [true, false, false, false, false, false, false, false, false, false, false, false, false, false, false, false, false, false, false, false, false, false, false, false, false, false, false, false, false, false, false, false, false, false, false, false, false]) rfl (by kernel_rfl) rfl (fun _ _ _ => val_move rfl) rfl rfl rfl ?_
                  refine ga_branch (rs := [1, 2]) (by kernel_rfl) rfl (.cons (ls' := [true, true, false, false, false, false, false, false, false, false, false, false, false, false, false, false, false, false, false, false, false, false, false, false, false, false, false, false, false, false, false, false, false, false, false, false, false]) rfl rfl ?_ (.cons (ls' := [true, false, true, false, false, false, false, false, false, false, false, false, false, false, false, false, false, false, false, false, false, false, false, false, false, false, false, false, false, false, false, false, false, false, false, false, false]) rfl rfl ?_ .nil))
                  · skip
                    refine gs_pure (enters kcall57 (.cons rfl .nil)) (sum_spec bw wa n c7 l hn (by omega) hw.cap) rfl rfl rfl (fun w hi => ⟨row_of_sees (sees_mem (by repeat (first | exact .head _ | refine .tail _ ?_ | refine List.mem_append_right _ ?_))) w hi, row_of_sees (hw.look (by repeat (first | exact .here | exact .headR | exact .app | refine .tail ?_ | refine .appr ?_))) w hi⟩) ?_
                    refine ga_branch (rs := [2]) (by kernel_rfl) rfl (.cons (ls' := [true, true, true, false, false, false, false, false, false, false, false, false, false, false, false, false, false, false, false, false, false, false, false, false, false, false, false, false, false, false, false, false, false, false, false, false, false]) rfl rfl ?_ .nil)
                    refine gs_val (val_loadA kag24 rfl (sees_mem (by repeat (first | exact .head _ | refine .tail _ ?_ | refine List.mem_append_right _ ?_))) rfl rfl) rfl rfl rfl ?_
                    refine ga_take (i := 3) (ls' := [true, true, true, true, false, false, false, false, false, false, false, false, false, false, false, false, false, false, false, false, false, false, false, false, false, false, false, false, false, false, false, false, false, false, false, false, false]) rfl (by kernel_rfl) rfl (fun _ _ _ => val_yes (val_eqlDig kdig24 rfl rfl rfl rfl) rfl) rfl rfl rfl ?_
                    refine ga_take (i := 4) (ls' := [true, true, true, true, true, false, false, false, false, false, false, false, false, false, false, false, false, false, false, false, false, false, false, false, false, false, false, false, false, false, false, false, false, false, false, false, false]) rfl (by kernel_rfl) rfl (fun _ _ _ => val_move rfl) rfl rfl rfl ?_
                    refine ga_take (i := 6) (ls' := [true, true, true, true, true, false, true, false, false, false, false, false, false, false, false, false, false, false, false, false, false, false, false, false, false, false, false, false, false, false, false, false, false, false, false, false, false]) rfl (by kernel_rfl) rfl (fun _ _ _ => val_move rfl) rfl rfl rfl ?_
                    refine ga_take (i := 7) (ls' := [true, true, true, true, true, false, true, true, false, false, false, false, false, false, false, false, false, false, false, false, false, false, false, false, false, false, false, false, false, false, false, false, false, false, false, false, false]) rfl (by kernel_rfl) rfl (fun _ _ _ => val_convI rfl kis5 kun3 (by omega)) rfl rfl rfl ?_
                    refine ga_take (i := 10) (ls' := [true, true, true, true, true, false, true, true, false, false, true, false, false, false, false, false, false, false, false, false, false, false, false, false, false, false, false, false, false, false, false, false, false, false, false, false, false]) rfl (by kernel_rfl) rfl (fun _ _ _ => val_move rfl) rfl rfl rfl ?_
                    refine ga_take (i := 11) (ls' := [true, true, true, true, true, false, true, true, false, false, true, true, false, false, false, false, false, false, false, false, false, false, false, false, false, false, false, false, false, false, false, false, false, false, false, false, false]) rfl (by kernel_rfl) rfl (fun _ _ _ => val_convI rfl kis5 kun3 (by omega)) rfl rfl rfl ?_
                    refine gx_env (F := [(0, _), (2, _), (4, _), (8, _), (9, _), (11, _), (13, _), (54, _), (55, _), (56, _), (65, _), (66, _), (68, _), (69, _), (70, _), (71, _), (72, _), (74, _), (75, _), (78, _), (79, _)]) (.cons rfl (.cons rfl (.cons rfl (.cons rfl (.cons rfl (.cons rfl (.cons rfl (.cons rfl (.cons rfl (.cons rfl (.cons rfl (.cons rfl (.cons rfl (.cons rfl (.cons rfl (.cons rfl (.cons rfl (.cons rfl (.cons rfl (.cons rfl (.cons rfl .nil))))))))))))))))))))) (gx_perm (by first | exact .refl _ | (repeat (first | exact .refl _ | refine perm_take (by first | exact .head | exact .tail .head | exact .tail (.tail .head) | exact .tail (.tail (.tail .head)) | exact .tail (.tail (.tail (.tail .head))) | exact .tail (.tail (.tail (.tail (.tail .head))))) ?_))) (hD2  True.intro))
                  · skip
                    refine gs_val (val_loadA kag24 rfl (sees_mem (by repeat (first | exact .head _ | refine .tail _ ?_ | refine List.mem_append_right _ ?_))) rfl rfl) rfl rfl rfl ?_
                    refine ga_branch (rs := [1]) (by kernel_rfl) rfl (.cons (ls' := [true, true, true, false, false, false, false, false, false, false, false, false, false, false, false, false, false, false, false, false, false, false, false, false, false, false, false, false, false, false, false, false, false, false, false, false, false]) rfl rfl ?_ .nil)
                    refine gs_pure (enters kcall57 (.cons rfl .nil)) (sum_spec bw wa n c7 l hn (by omega) hw.cap) rfl rfl rfl (fun w hi => ⟨row_of_sees (sees_mem (by repeat (first | exact .head _ | refine .tail _ ?_ | refine List.mem_append_right _ ?_))) w hi, row_of_sees (hw.look (by repeat (first | exact .here | exact .headR | exact .app | refine .tail ?_ | refine .appr ?_))) w hi⟩) ?_
                    refine ga_take (i := 3) (ls' := [true, true, true, true, false, false, false, false, false, false, false, false, false, false, false, false, false, false, false, false, false, false, false, false, false, false, false, false, false, false, false, false, false, false, false, false, false]) rfl (by kernel_rfl) rfl (fun _ _ _ => val_yes (val_eqlDig kdig24 rfl rfl rfl rfl) rfl) rfl rfl rfl ?_
                    refine ga_take (i := 4) (ls' := [true, true, true, true, true, false, false, false, false, false, false, false, false, false, false, false, false, false, false, false, false, false, false, false, false, false, false, false, false, false, false, false, false, false, false, false, false]) rfl (by kernel_rfl) rfl (fun _ _ _ => val_move rfl) rfl rfl rfl ?_
                    refine ga_take (i := 6) (ls' := [true, true, true, true, true, false, true, false, false, false, false, false, false, false, false, false, false, false, false, false, false, false, false, false, false, false, false, false, false, false, false, false, false, false, false, false, false]) rfl (by kernel_rfl) rfl (fun _ _ _ => val_move rfl) rfl rfl rfl ?_
                    refine ga_take (i := 7) (ls' := [true, true, true, true, true, false, true, true, false, false, false, false, false, false, false, false, false, false, false, false, false, false, false, false, false, false, false, false, false, false, false, false, false, false, false, false, false]) rfl (by kernel_rfl) rfl (fun _ _ _ => val_convI rfl kis5 kun3 (by omega)) rfl rfl rfl ?_
                    refine ga_take (i := 10) (ls' := [true, true, true, true, true, false, true, true, false, false, true, false, false, false, false, false, false, false, false, false, false, false, false, false, false, false, false, false, false, false, false, false, false, false, false, false, false]) rfl (by kernel_rfl) rfl (fun _ _ _ => val_move rfl) rfl rfl rfl ?_
                    refine ga_take (i := 11) (ls' := [true, true, true, true, true, false, true, true, false, false, true, true, false, false, false, false, false, false, false, false, false, false, false, false, false, false, false, false, false, false, false, false, false, false, false, false, false]) rfl (by kernel_rfl) rfl (fun _ _ _ => val_convI rfl kis5 kun3 (by omega)) rfl rfl rfl ?_
                    refine gx_env (F := [(0, _), (2, _), (4, _), (8, _), (9, _), (11, _), (13, _), (54, _), (55, _), (56, _), (65, _), (66, _), (68, _), (69, _), (70, _), (71, _), (72, _), (74, _), (75, _), (78, _), (79, _)]) (.cons rfl (.cons rfl (.cons rfl (.cons rfl (.cons rfl (.cons rfl (.cons rfl (.cons rfl (.cons rfl (.cons rfl (.cons rfl (.cons rfl (.cons rfl (.cons rfl (.cons rfl (.cons rfl (.cons rfl (.cons rfl (.cons rfl (.cons rfl (.cons rfl .nil))))))))))))))))))))) (gx_perm (by first | exact .refl _ | (repeat (first | exact .refl _ | refine perm_take (by first | exact .head | exact .tail .head | exact .tail (.tail .head) | exact .tail (.tail (.tail .head)) | exact .tail (.tail (.tail (.tail .head))) | exact .tail (.tail (.tail (.tail (.tail .head))))) ?_))) (hD2  True.intro))
                · rintro  _
                  refine ga_branch (rs := [5, 9]) (by kernel_rfl) rfl (.cons (ls' := [true, true, true, true, true, true, true, true, false, false, true, true, false, false, false, false, false, false, false, false, false, false, false, false, false, false, false, false, false, false, false, false, false, false, false, false, false]) rfl rfl ?_ (.cons (ls' := [true, true, true, true, true, false, true, true, false, true, true, true, false, false, false, false, false, false, false, false, false, false, false, false, false, false, false, false, false, false, false, false, false, false, false, false, false]) rfl rfl ?_ .nil))
                  · skip
                    refine gs_val (val_loadA kag22 rfl (sees_mem (by repeat (first | exact .head _ | refine .tail _ ?_ | refine List.mem_append_right _ ?_))) rfl rfl) rfl rfl rfl ?_
                    refine ga_branch (rs := [8, 9]) (by kernel_rfl) rfl (.cons (ls' := [true, true, true, true, true, true, true, true, true, false, true, true, false, false, false, false, false, false, false, false, false, false, false, false, false, false, false, false, false, false, false, false, false, false, false, false, false]) rfl rfl ?_ (.cons (ls' := [true, true, true, true, true, true, true, true, false, true, true, true, false, false, false, false, false, false, false, false, false, false, false, false, false, false, false, false, false, false, false, false, false, false, false, false, false]) rfl rfl ?_ .nil))
                    · skip
                      refine gs_makes (enters kcall43 (.cons rfl (.cons rfl .nil))) (stream_spec x _) rfl rfl rfl (fun _ _ => trivial) (fun ⟨ba76, c76, N76⟩ h76 => ?_)
                      refine ga_branch (rs := [9]) (by kernel_rfl) rfl (.cons (ls' := [true, true, true, true, true, true, true, true, true, true, true, true, false, false, false, false, false, false, false, false, false, false, false, false, false, false, false, false, false, false, false, false, false, false, false, false, false]) rfl rfl ?_ .nil)
                      refine gs_val (val_loadA kag22 rfl (sees_mem (by repeat (first | exact .head _ | refine .tail _ ?_ | refine List.mem_append_right _ ?_))) rfl rfl) rfl rfl rfl ?_
                      refine gx_env (F := [(0, _), (2, _), (4, _), (8, _), (9, _), (11, _), (13, _), (54, _), (55, _), (56, _), (65, _), (66, _), (68, _), (69, _), (70, _), (71, _), (72, _), (73, _), (74, _), (75, _), (76, _), (77, _), (78, _), (79, _)]) (.cons rfl (.cons rfl (.cons rfl (.cons rfl (.cons rfl (.cons rfl (.cons rfl (.cons rfl (.cons rfl (.cons rfl (.cons rfl (.cons rfl (.cons rfl (.cons rfl (.cons rfl (.cons rfl (.cons rfl (.cons rfl (.cons rfl (.cons rfl (.cons rfl (.cons rfl (.cons rfl (.cons rfl .nil)))))))))))))))))))))))) (gx_perm (by first | exact .refl _ | (repeat (first | exact .refl _ | refine perm_take (by first | exact .head | exact .tail .head | exact .tail (.tail .head) | exact .tail (.tail (.tail .head)) | exact .tail (.tail (.tail (.tail .head))) | exact .tail (.tail (.tail (.tail (.tail .head))))) ?_))) (hD0 ba76 c76 N76 (And.intro h76 True.intro)))
                    · skip
                      refine gs_val (val_loadA kag22 rfl (sees_mem (by repeat (first | exact .head _ | refine .tail _ ?_ | refine List.mem_append_right _ ?_))) rfl rfl) rfl rfl rfl ?_
                      refine gx_env (F := [(0, _), (2, _), (4, _), (8, _), (9, _), (11, _), (13, _), (54, _), (55, _), (56, _), (65, _), (66, _), (68, _), (69, _), (70, _), (71, _), (72, _), (73, _), (74, _), (75, _), (77, _), (78, _), (79, _)]) (.cons rfl (.cons rfl (.cons rfl (.cons rfl (.cons rfl (.cons rfl (.cons rfl (.cons rfl (.cons rfl (.cons rfl (.cons rfl (.cons rfl (.cons rfl (.cons rfl (.cons rfl (.cons rfl (.cons rfl (.cons rfl (.cons rfl (.cons rfl (.cons rfl (.cons rfl (.cons rfl .nil))))))))))))))))))))))) (gx_perm (by first | exact .refl _ | (repeat (first | exact .refl _ | refine perm_take (by first | exact .head | exact .tail .head | exact .tail (.tail .head) | exact .tail (.tail (.tail .head)) | exact .tail (.tail (.tail (.tail .head))) | exact .tail (.tail (.tail (.tail (.tail .head))))) ?_))) (hD1  True.intro))
                  · skip
                    refine gs_val (val_loadA kag22 rfl (sees_mem (by repeat (first | exact .head _ | refine .tail _ ?_ | refine List.mem_append_right _ ?_))) rfl rfl) rfl rfl rfl ?_
                    refine ga_branch (rs := [5]) (by kernel_rfl) rfl (.cons (ls' := [true, true, true, true, true, true, true, true, false, true, true, true, false, false, false, false, false, false, false, false, false, false, false, false, false, false, false, false, false, false, false, false, false, false, false, false, false]) rfl rfl ?_ .nil)
                    refine gs_val (val_loadA kag22 rfl (sees_mem (by repeat (first | exact .head _ | refine .tail _ ?_ | refine List.mem_append_right _ ?_))) rfl rfl) rfl rfl rfl ?_
                    refine gx_env (F := [(0, _), (2, _), (4, _), (8, _), (9, _), (11, _), (13, _), (54, _), (55, _), (56, _), (65, _), (66, _), (68, _), (69, _), (70, _), (71, _), (72, _), (73, _), (74, _), (75, _), (77, _), (78, _), (79, _)]) (.cons rfl (.cons rfl (.cons rfl (.cons rfl (.cons rfl (.cons rfl (.cons rfl (.cons rfl (.cons rfl (.cons rfl (.cons rfl (.cons rfl (.cons rfl (.cons rfl (.cons rfl (.cons rfl (.cons rfl (.cons rfl (.cons rfl (.cons rfl (.cons rfl (.cons rfl (.cons rfl .nil))))))))))))))))))))))) (gx_perm (by first | exact .refl _ | (repeat (first | exact .refl _ | refine perm_take (by first | exact .head | exact .tail .head | exact .tail (.tail .head) | exact .tail (.tail (.tail .head)) | exact .tail (.tail (.tail (.tail .head))) | exact .tail (.tail (.tail (.tail (.tail .head))))) ?_))) (hD1  True.intro))
              · rintro  _
                refine ga_branch (rs := [8]) (by kernel_rfl) rfl (.cons (ls' := [true, true, true, true, true, true, true, true, true, true, true, true, false, false, false, false, false, false, false, false, false, false, false, false, false, false, false, false, false, false, false, false, false, false, false, false, false]) rfl rfl ?_ .nil)
                refine gs_makes (enters kcall43 (.cons rfl (.cons rfl .nil))) (stream_spec x _) rfl rfl rfl (fun _ _ => trivial) (fun ⟨ba76, c76, N76⟩ h76 => ?_)
                refine gx_env (F := [(0, _), (2, _), (4, _), (8, _), (9, _), (11, _), (13, _), (54, _), (55, _), (56, _), (65, _), (66, _), (68, _), (69, _), (70, _), (71, _), (72, _), (73, _), (74, _), (75, _), (76, _), (77, _), (78, _), (79, _)]) (.cons rfl (.cons rfl (.cons rfl (.cons rfl (.cons rfl (.cons rfl (.cons rfl (.cons rfl (.cons rfl (.cons rfl (.cons rfl (.cons rfl (.cons rfl (.cons rfl (.cons rfl (.cons rfl (.cons rfl (.cons rfl (.cons rfl (.cons rfl (.cons rfl (.cons rfl (.cons rfl (.cons rfl .nil)))))))))))))))))))))))) (gx_perm (by first | exact .refl _ | (repeat (first | exact .refl _ | refine perm_take (by first | exact .head | exact .tail .head | exact .tail (.tail .head) | exact .tail (.tail (.tail .head)) | exact .tail (.tail (.tail (.tail .head))) | exact .tail (.tail (.tail (.tail (.tail .head))))) ?_))) (hD0 ba76 c76 N76 (And.intro h76 True.intro)))
            · rintro ba76 c76 N76 ⟨h76, _⟩
              refine ga_branch (rs := [12]) (by kernel_rfl) rfl (.cons (ls' := [true, true, true, true, true, true, true, true, true, true, true, true, true, false, false, false, false, false, false, false, false, false, false, false, false, false, false, false, false, false, false, false, false, false, false, false, false]) rfl rfl ?_ .nil)
              refine gs_makes (enters kcall45 (.cons rfl (.cons rfl .nil))) (rstream_spec x _) rfl rfl rfl (fun _ _ => trivial) (fun ⟨ba80, c80, N80⟩ h80 => ?_)
              refine ga_branch (rs := [13]) (by kernel_rfl) rfl (.cons (ls' := [true, true, true, true, true, true, true, true, true, true, true, true, true, true, false, false, false, false, false, false, false, false, false, false, false, false, false, false, false, false, false, false, false, false, false, false, false]) rfl rfl ?_ .nil)
              refine gs_pure (enters kcall44 (.cons rfl (.cons rfl .nil))) (same02_yes _ _ _ _ _ _ (hStreamI x ((y.toNat : Nat) : Int)) (hStreamI x ((y.toNat : Nat) : Int)) rfl rfl rfl) rfl rfl rfl (fun w hi => ⟨row_of_sees (h76.look (by repeat (first | exact .here | exact .headR | exact .app | refine .tail ?_ | refine .appr ?_))) w hi, row_of_sees (h80.look (by repeat (first | exact .here | exact .headR | exact .app | refine .tail ?_ | refine .appr ?_))) w hi⟩) ?_
              refine ga_take (i := 14) (ls' := [true, true, true, true, true, true, true, true, true, true, true, true, true, true, true, false, false, false, false, false, false, false, false, false, false, false, false, false, false, false, false, false, false, false, false, false, false]) rfl (by kernel_rfl) rfl (fun _ _ _ => val_pick_t rfl rfl) rfl rfl rfl ?_
              refine ga_take (i := 15) (ls' := [true, true, true, true, true, true, true, true, true, true, true, true, true, true, true, true, false, false, false, false, false, false, false, false, false, false, false, false, false, false, false, false, false, false, false, false, false]) rfl (by kernel_rfl) rfl (fun _ _ _ => val_move rfl) rfl rfl rfl ?_
              refine ga_take (i := 16) (ls' := [true, true, true, true, true, true, true, true, true, true, true, true, true, true, true, true, true, false, false, false, false, false, false, false, false, false, false, false, false, false, false, false, false, false, false, false, false]) rfl (by kernel_rfl) rfl (fun _ _ _ => val_move rfl) rfl rfl rfl ?_
              refine ga_branch (rs := [17]) (by kernel_rfl) rfl (.cons (ls' := [true, true, true, true, true, true, true, true, true, true, true, true, true, true, true, true, true, true, false, false, false, false, false, false, false, false, false, false, false, false, false, false, false, false, false, false, false]) rfl rfl ?_ .nil)
              refine gs_pure (enters kcall57 (.cons rfl .nil)) (sum_nil) rfl rfl rfl (fun _ _ => trivial) ?_
              refine ga_branch (rs := [18]) (by kernel_rfl) rfl (.cons (ls' := [true, true, true, true, true, true, true, true, true, true, true, true, true, true, true, true, true, true, true, false, false, false, false, false, false, false, false, false, false, false, false, false, false, false, false, false, false]) rfl rfl ?_ .nil)
              refine gs_pure (enters kcall51 (.cons rfl .nil)) (of_spec none 0 0 [] rfl (by decide) (by decide)) rfl rfl rfl (row_of_sees sees_nil) ?_
              refine ga_take (i := 19) (ls' := [true, true, true, true, true, true, true, true, true, true, true, true, true, true, true, true, true, true, true, true, false, false, false, false, false, false, false, false, false, false, false, false, false, false, false, false, false]) rfl (by kernel_rfl) rfl (fun _ _ _ => val_yes (val_eqlDig kdig24 rfl rfl rfl rfl) rfl) rfl rfl rfl ?_
              refine ga_take (i := 20) (ls' := [true, true, true, true, true, true, true, true, true, true, true, true, true, true, true, true, true, true, true, true, true, false, false, false, false, false, false, false, false, false, false, false, false, false, false, false, false]) rfl (by kernel_rfl) rfl (fun _ _ _ => val_pick_t rfl rfl) rfl rfl rfl ?_
              refine ga_take (i := 21) (ls' := [true, true, true, true, true, true, true, true, true, true, true, true, true, true, true, true, true, true, true, true, true, true, false, false, false, false, false, false, false, false, false, false, false, false, false, false, false]) rfl (by kernel_rfl) rfl (fun _ _ _ => val_move rfl) rfl rfl rfl ?_
              refine ga_take (i := 22) (ls' := [true, true, true, true, true, true, true, true, true, true, true, true, true, true, true, true, true, true, true, true, true, true, true, false, false, false, false, false, false, false, false, false, false, false, false, false, false]) rfl (by kernel_rfl) rfl (fun _ _ _ => val_move rfl) rfl rfl rfl ?_
              refine ga_branch (rs := [23]) (by kernel_rfl) rfl (.cons (ls' := [true, true, true, true, true, true, true, true, true, true, true, true, true, true, true, true, true, true, true, true, true, true, true, true, false, false, false, false, false, false, false, false, false, false, false, false, false]) rfl rfl ?_ .nil)
              refine gs_pure (enters kcall59 (.cons rfl .nil)) (cloneW_nil) rfl rfl rfl (fun _ _ => trivial) ?_
              refine ga_take (i := 24) (ls' := [true, true, true, true, true, true, true, true, true, true, true, true, true, true, true, true, true, true, true, true, true, true, true, true, true, false, false, false, false, false, false, false, false, false, false, false, false]) rfl (by kernel_rfl) rfl (fun _ _ _ => val_eqlNil kun56 rfl rfl) rfl rfl rfl ?_
              refine ga_take (i := 25) (ls' := [true, true, true, true, true, true, true, true, true, true, true, true, true, true, true, true, true, true, true, true, true, true, true, true, true, true, false, false, false, false, false, false, false, false, false, false, false]) rfl (by kernel_rfl) rfl (fun _ _ _ => val_pick_t rfl rfl) rfl rfl rfl ?_
              refine ga_take (i := 26) (ls' := [true, true, true, true, true, true, true, true, true, true, true, true, true, true, true, true, true, true, true, true, true, true, true, true, true, true, true, false, false, false, false, false, false, false, false, false, false]) rfl (by kernel_rfl) rfl (fun _ _ _ => val_move rfl) rfl rfl rfl ?_
              refine ga_take (i := 27) (ls' := [true, true, true, true, true, true, true, true, true, true, true, true, true, true, true, true, true, true, true, true, true, true, true, true, true, true, true, true, false, false, false, false, false, false, false, false, false]) rfl (by kernel_rfl) rfl (fun _ _ _ => val_move rfl) rfl rfl rfl ?_
              refine ga_branch (rs := [28]) (by kernel_rfl) rfl (.cons (ls' := [true, true, true, true, true, true, true, true, true, true, true, true, true, true, true, true, true, true, true, true, true, true, true, true, true, true, true, true, true, false, false, false, false, false, false, false, false]) rfl rfl ?_ .nil)
              refine gs_pure (enters kcall58 (.cons rfl (.cons rfl .nil))) (sameW_nn) rfl rfl rfl (fun _ _ => trivial) ?_
              refine ga_take (i := 29) (ls' := [true, true, true, true, true, true, true, true, true, true, true, true, true, true, true, true, true, true, true, true, true, true, true, true, true, true, true, true, true, true, false, false, false, false, false, false, false]) rfl (by kernel_rfl) rfl (fun _ _ _ => val_pick_t rfl rfl) rfl rfl rfl ?_
              refine ga_take (i := 30) (ls' := [true, true, true, true, true, true, true, true, true, true, true, true, true, true, true, true, true, true, true, true, true, true, true, true, true, true, true, true, true, true, true, false, false, false, false, false, false]) rfl (by kernel_rfl) rfl (fun _ _ _ => val_move rfl) rfl rfl rfl ?_
              refine ga_take (i := 31) (ls' := [true, true, true, true, true, true, true, true, true, true, true, true, true, true, true, true, true, true, true, true, true, true, true, true, true, true, true, true, true, true, true, true, false, false, false, false, false]) rfl (by kernel_rfl) rfl (fun _ _ _ => val_move rfl) rfl rfl rfl ?_
              refine ga_take (i := 32) (ls' := [true, true, true, true, true, true, true, true, true, true, true, true, true, true, true, true, true, true, true, true, true, true, true, true, true, true, true, true, true, true, true, true, true, false, false, false, false]) rfl (by kernel_rfl) rfl (fun _ _ _ => val_move rfl) rfl rfl rfl ?_
              refine ga_branch (rs := [33]) (by kernel_rfl) rfl (.cons (ls' := [true, true, true, true, true, true, true, true, true, true, true, true, true, true, true, true, true, true, true, true, true, true, true, true, true, true, true, true, true, true, true, true, true, true, false, false, false]) rfl rfl ?_ .nil)
              refine gs_pure (enters kcall58 (.cons rfl (.cons rfl .nil))) (sameW_nw bw) rfl rfl rfl (fun _ _ => trivial) ?_
              refine ga_take (i := 34) (ls' := [true, true, true, true, true, true, true, true, true, true, true, true, true, true, true, true, true, true, true, true, true, true, true, true, true, true, true, true, true, true, true, true, true, true, true, false, false]) rfl (by kernel_rfl) rfl (fun _ _ _ => val_not rfl) rfl rfl rfl ?_
              refine ga_take (i := 35) (ls' := [true, true, true, true, true, true, true, true, true, true, true, true, true, true, true, true, true, true, true, true, true, true, true, true, true, true, true, true, true, true, true, true, true, true, true, true, false]) rfl (by kernel_rfl) rfl (fun _ _ _ => val_pick_t rfl rfl) rfl rfl rfl ?_
              refine ga_take (i := 36) (ls' := [true, true, true, true, true, true, true, true, true, true, true, true, true, true, true, true, true, true, true, true, true, true, true, true, true, true, true, true, true, true, true, true, true, true, true, true, true]) rfl (by kernel_rfl) rfl (fun _ _ _ => val_assign rfl) rfl rfl rfl ?_
              refine ga_done (by kernel_rfl) ?_
              refine gk_seq ?_
              refine gc_ret ?_
              refine gk_ret rfl (resv_tmp rfl .nil) (List.nil_sublist _) ?_
              exact ⟨rfl, rfl⟩

end Go.Proofs.Ythmepionpjkcgaa
