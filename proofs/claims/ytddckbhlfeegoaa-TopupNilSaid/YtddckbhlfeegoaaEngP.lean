/-
  Engine, part P: appending to a slice of a variable that is an array; a slice that is seen as a constant's bytes.
-/
import Derived.Test.YtddckbhlfeegoaaEngM
namespace Go.Eng
open Go
set_option linter.unusedVariables false
set_option linter.unusedSimpArgs false
theorem run_appendX {P : Program} {w0 w : World} {mods : List Nat} {L : List Ent} {t u ty e e' size bytes n c m : Nat} {ba : Option Addr} {xs ys : List Value} {N : List Ent} {L' : List Ent → List Ent} {x z : Value}
    (hk : sliOf P t = some (e, size, bytes)) (hz : zeroOf P e = some z) (hzs : z.cells.size = size) (hb : 0 < bytes) (hown : Own e' size ba n c xs N) (hr : ∀ N', ReplT L N N' (L' N'))
    (hsrc : Brings P w0 mods L size u x m ys) (hbound : (n + m) * bytes ≤ 140737488355328) (hi : Inv w0 mods L w) :
    ∃ w' ba' c' N' e2, (Builtin.append_ #[t, u] ty #[.slice ba n c, x]).run P w = .ok (.slice ba' (n + m) c') w' ∧ Own e2 size ba' (n + m) c' (xs ++ ys) N' ∧ Inv w0 mods (L' N') w' := by
  obtain ⟨hut, inf, hinf, hsz, hby⟩ := sliOf_spec hk
  obtain ⟨inf', hinf', hz'⟩ := zeroOf_spec hz
  have : inf' = inf := Option.some.inj (hinf'.symm.trans hinf)
  subst this
  have hS := hsrc w hi
  have hm := hS.newsLen
  have h1 := hS.one
  rw [← hsz] at hS
  by_cases hroom : n + m ≤ c
  · cases hown with
    | nil =>
      obtain rfl : m = 0 := by omega
      have : ys = [] := by simpa using hm
      subst this
      refine ⟨w, none, 0, [], e, ?_, .nil, ?_⟩
      · rcases hS.kind with ⟨e', hk'⟩ | hk' <;> simp [Builtin.append_, run_underlying hut, run_underlying hk', sizeOf, typeInfo, hinf, hS.len, hS.cells]
      · obtain ⟨R, p1, p2⟩ := (hr []).perm
        exact (hi.perm p1).perm p2.symm
    | @blk b n c xs junk hl hc hnc =>
      have hlen2 : c * size ≤ xs.length + junk.length := by simpa using hc
      have hle : n * size + m * size ≤ c * size := by rw [← Nat.add_mul]; exact Nat.mul_le_mul_right _ hroom
      have hfits : n * size + ys.length ≤ (xs ++ junk).length := by rw [hm, List.length_append]; omega
      have hsp : splice (xs ++ junk) (n * size) ys = (xs ++ ys) ++ junk.drop ys.length := by
        unfold splice
        rw [← hl, List.take_left, ← List.drop_drop, List.drop_left]
      obtain ⟨R, p1, p2⟩ := (hr [⟨b, .cells ((xs ++ ys) ++ junk.drop ys.length).toArray e' (0, 0)⟩]).perm
      obtain ⟨w', hst, hi'⟩ := Inv.store (L' := ⟨b, .cells (splice (xs ++ junk) (n * size) ys).toArray e' (0, 0)⟩ :: R) (off := n * size) (vs := ys) (hi.perm p1) .head hfits h1 P
      rw [hsp] at hi'
      refine ⟨w', some ⟨b, 0, none⟩, c, _, e', ?_, .blk ?_ ?_ hroom, hi'.perm p2.symm⟩
      · have hcell : ∀ j, j < ys.length → (w.cell? ⟨b, 0 + n * inf'.size + j, none⟩).isSome = true := fun j hj => by
          have := (sees_all (w0 := w0) (mods := mods) (L := L) (bs := xs ++ junk) (T := e') (fz := (0, 0)) (b := b) (p1.mem_iff.2 (.head _))) w hi
          have hj' : n * size + j < (xs ++ junk).length := by omega
          obtain ⟨a, ha, hc2⟩ := this (n * size + j) _ (List.getElem?_eq_getElem hj')
          cases ha
          rw [add_mk] at hc2
          rw [hsz, Nat.zero_add, ← Nat.zero_add (n * size + j), hc2]
          rfl
        have hfro : ∀ j, j < ys.length → w.frozen? ⟨b, 0 + n * inf'.size + j, none⟩ = false := fun j hj => by
          have := hi.has _ (p1.mem_iff.2 (.head _))
          simp [World.frozen?, this]
        rw [run_append_room_src w t u ty e inf' hut hinf b 0 n c x m ys hS hroom hcell hfro]
        have h3 := run_storeCells_cells (P := P) b (0 + n * inf'.size) ys 0 w (by simpa using hcell) (by simpa using hfro) h1
        simp only [Nat.add_zero, Nat.zero_add, hsz] at h3 ⊢
        rw [hst] at h3
        injection h3 with _ h3
        rw [h3]
      · rw [List.length_append, hl, hm, Nat.add_mul]
      · rw [List.length_append, List.length_append, List.length_drop, hl, hm]
        rw [hl] at hlen2
        omega
  · have hg : c < n + m := by omega
    have hf : Builtin.nextslicecap (n + m) c * inf'.bytes ≤ 281474976710656 := growslice_fits hg (by rw [hby]; exact hbound)
    have h63 : ((n + m : Nat) : Int) ≤ 9223372036854775807 := by
      have : n + m ≤ (n + m) * bytes := Nat.le_mul_of_pos_right _ hb
      omega
    have hlo := hown.len
    have hold : (Builtin.firstCells inf'.size n (.slice ba n c)).run P w.drew = .ok xs.toArray w.drew := by
      rw [hsz]
      have hsee := (hown.sees (w0 := w0) (mods := mods) (hr [])) w.drew (hi.drew _)
      cases ba with
      | none =>
        cases xs with
        | nil => rfl
        | cons y ys =>
          obtain ⟨a, ha, _⟩ := hsee 0 y rfl
          cases ha
      | some a =>
        exact run_firstCells_some w.drew size n a n c xs hlo (fun j v hv => by
          obtain ⟨a', ha, hc⟩ := hsee j v hv
          cases ha; exact hc)
    have hrun := run_append_grow_src w t u ty e inf' z hut hinf hz' ba n c xs hold x m ys hS hg h63 hf
    have hp := (hi.drew (w.drawn + 1)).push (.cells ((xs ++ ys).toArray ++ Builtin.zeroCells z.cells (grownCap w (n + m) c e - (n + m))) e)
    have heq : ((xs ++ ys).toArray ++ Builtin.zeroCells z.cells (grownCap w (n + m) c e - (n + m))) = ((xs ++ ys) ++ (Builtin.zeroCells z.cells (grownCap w (n + m) c e - (n + m))).toList).toArray := by
      apply Array.ext'; simp
    rw [heq] at hp hrun
    obtain ⟨R, p1, p2⟩ := (hr [⟨w.heap.size, .cells ((xs ++ ys) ++ (Builtin.zeroCells z.cells (grownCap w (n + m) c e - (n + m))).toList).toArray e (0, 0)⟩]).perm
    refine ⟨_, _, _, _, e, hrun, .blk ?_ ?_ (grownCap_ge w (n + m) c e), ((hp.perm (p1.cons _)).sub ?_).perm p2.symm⟩
    · rw [List.length_append, hlo, hm, Nat.add_mul]
    · rw [List.length_append, List.length_append, hlo, hm, Array.length_toList, size_zeroCells, hzs, ← Nat.add_mul, ← Nat.add_mul]
      have := grownCap_ge w (n + m) c e
      exact Nat.mul_le_mul_right _ (by omega)
    · exact List.Sublist.cons_cons _ (List.sublist_append_right _ _)


section
variable {P : Program} {n : Nat} {w0 : World} {mods : List Nat} {k : Kont} {E : Env} {L : List Ent}
variable {dst : Option Tmp} {T t ty : TypeId} {pos : String} {after : Array Edge} {g : Option (Nat × Bool)} {x y z : Operand} {op : BinOp}
theorem gs_appendX {ops : List Oper} {Q : Exit → Act → World → Prop} {K : Act → World → Prop} {u e e' size bytes nn c m d : Nat} {ba : Option Addr} {xs ys : List Value} {N : List Ent} {L' : List Ent → List Ent} {v zv : Value} (hk : sliOf P t = some (e, size, bytes)) (hz : zeroOf P e = some zv) (hzs : zv.cells.size = size) (hb : Nat.ble 1 bytes = true)
    (hx : Env.ev E x = some (.slice ba nn c)) (hy : Env.ev E y = some v) (hw : Env.wants E ops g = some true) (hn : Nat.ble (d + 1) n = true) (hown : Own e' size ba nn c xs N) (hr : ∀ N', ReplT L N N' (L' N'))
    (hsrc : Brings P w0 mods L size u v m ys) (hbound : (nn + m) * bytes ≤ 140737488355328)
    (h : ∀ ba' c' N' e2, Own e2 size ba' (nn + m) c' (xs ++ ys) N' → GX n w0 mods K ((d, .slice ba' (nn + m) c') :: E) (L' N')) :
    GX n w0 mods (stepOp P ops Q (⟨some d, .call ⟨.builtin .append, #[x, y], #[t, u]⟩, T, pos, after, g⟩) K) E L := by
  intro a w hf hi
  unfold stepOp
  rw [if_pos (hf.wants hw)]
  refine .inl ?_
  unfold Oper.wp
  obtain ⟨w', ba', c', N', e2, hrun, ho, hi'⟩ := run_appendX (ty := T) hk hz hzs (Nat.le_of_ble_eq_true hb) hown hr hsrc hbound hi
  have : (execOp a.eval ⟨some d, .call ⟨.builtin .append, #[x, y], #[t, u]⟩, T, pos, after, g⟩).run P w = .ok (.value (.slice ba' (nn + m) c')) w' := by
    simp [execOp, resolve, invoke, builtin, hf.eval hx, hf.eval hy, hrun]
  rw [this]
  exact h _ _ _ _ ho _ _ (hf.put (Nat.le_of_ble_eq_true hn)) hi'


/-- A slice turned into its own type: its row is marked behind its end. -/
theorem gs_mark {ops : List Oper} {Q : Exit → Act → World → Prop} {K : Act → World → Prop} {L' : List Ent} {b e ee d m c : Nat} {cs : List Value} (ht : P.underlying t = some (.slice ee)) (he : P.underlying ee = some (.int .u8)) (hx : Env.ev E x = some (.slice (some ⟨b, 0, none⟩) m c))
    (hw : Env.wants E ops g = some true) (hn : Nat.ble (d + 1) n = true) (hr : Repl L b (.cells cs.toArray e (0, 0)) (.cells cs.toArray e (cs.length, cs.length + 1)) L')
    (h : GX n w0 mods K ((d, .slice (some ⟨b, 0, none⟩) m c) :: E) L') : GX n w0 mods (stepOp P ops Q (⟨some d, .convert t t x, T, pos, after, g⟩) K) E L := by
  intro a w hf hi
  unfold stepOp
  rw [if_pos (hf.wants hw)]
  refine .inl ?_
  unfold Oper.wp
  have hb := hi.has _ hr.mem
  have hb : w.heap[b]? = some (.cells cs.toArray e (0, 0)) := hb
  have hsh : w.shape? b = some (e, cs.length) := by
    unfold World.shape?; rw [hb]; simp
  have hrun : (execOp a.eval ⟨some d, .convert t t x, T, pos, after, g⟩).run P w = .ok (.value (.slice (some ⟨b, 0, none⟩) m c)) (w.freeze ⟨b, cs.length, none⟩ 1) := by
    simp [execOp, convert, hf.eval hx, run_underlying ht, run_underlying he, markStringish, hsh]
  rw [hrun]
  have hi' : Inv w0 mods L' (w.freeze ⟨b, cs.length, none⟩ 1) := by
    refine hi.turn hr ?_ ?_ (fun j hj => ?_) rfl rfl rfl
    · unfold World.freeze
      rw [if_neg (by decide)]
      simp [Array.getElem?_modify, hb]
    · unfold World.freeze; rw [if_neg (by decide)]; simp
    · unfold World.freeze; rw [if_neg (by decide)]; simp [Array.getElem?_modify, Ne.symm hj]
  exact h _ _ (hf.put (Nat.le_of_ble_eq_true hn)) hi'
end
end Go.Eng
