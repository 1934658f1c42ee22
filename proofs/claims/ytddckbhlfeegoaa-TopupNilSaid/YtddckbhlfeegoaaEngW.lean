/-
  Engine, part W: zeros appended; a string's bytes, written behind.
-/
import Derived.Test.YtddckbhlfeegoaaEngV
namespace Go.Eng
open Go
set_option linter.unusedVariables false
set_option linter.unusedSimpArgs false
@[reducible] def markE (b : Nat) (cs : List Value) (e : TypeId) : Ent := ⟨b, .cells cs.toArray e (cs.length, cs.length + 1)⟩
theorem splice_cons (cs : List Value) (o : Nat) (v : Value) (vs : List Value) (h : o < cs.length) : splice (cs.set o v) (o + 1) vs = splice cs o (v :: vs) := by
  unfold splice
  rw [List.take_succ_eq_append_getElem (by simpa using h), List.take_set_of_le (Nat.le_refl _), List.getElem_set_self, List.drop_set_of_lt (by omega)]
  simp [Nat.add_comm 1, Nat.add_assoc]
theorem setCells_heap (b : Nat) (e : TypeId) (fz : Nat × Nat) : ∀ (vs : List Value) (o : Nat) (cs : List Value) (w : World), w.heap[b]? = some (.cells cs.toArray e fz) → o + vs.length ≤ cs.length →
    (w.setCells b o vs).heap[b]? = some (.cells (splice cs o vs).toArray e fz) ∧ (w.setCells b o vs).heap.size = w.heap.size ∧ (∀ k, k ≠ b → (w.setCells b o vs).heap[k]? = w.heap[k]?) ∧ (w.setCells b o vs).os = w.os ∧ (w.setCells b o vs).tape = w.tape ∧ (w.setCells b o vs).output = w.output
  | [], o, cs, w, h, _ => by
    refine ⟨?_, rfl, fun _ _ => rfl, rfl, rfl, rfl⟩
    unfold splice; simpa [World.setCells] using h
  | v :: vs, o, cs, w, h, hl => by
    have hl' : o + 1 + vs.length ≤ (cs.set o v).length := by simp at hl ⊢; omega
    have h1 : (w.setCell ⟨b, o, none⟩ v).heap[b]? = some (.cells (cs.set o v).toArray e fz) := by
      simp [World.setCell, Array.getElem?_modify, h]
    obtain ⟨i1, i2, i3, i4, i5, i6⟩ := setCells_heap b e fz vs (o + 1) (cs.set o v) (w.setCell ⟨b, o, none⟩ v) h1 hl'
    rw [splice_cons _ _ _ _ (by simp at hl; omega)] at i1
    refine ⟨i1, by rw [World.setCells, i2]; simp [World.setCell], fun k hk => ?_, i4, i5, i6⟩
    rw [World.setCells, i3 k hk]; simp [World.setCell, Array.getElem?_modify, Ne.symm hk]
@[reducible] def zL (m : Nat) : List UInt8 := List.replicate m 0
theorem append_zeros {P : Program} {w : World} {t u tS e ty bytes n c m : Nat} {ba : Option Addr} {st : ByteArray} (hl : st.size = m) (hcs : st.data.toList.map U8 = List.replicate m (U8 0)) (hk : sliOf P t = some (e, 1, bytes)) (hb : bytes = 1) (hz : zeroOf P e = some (.int .u8 0)) (hu : P.underlying u = some (.int .i64)) (hS : P.underlying tS = some .string) (hm : 0 < m) (hbound : n + m ≤ 140737488355328) :
    (Builtin.append_ #[t, u] ty #[.slice ba n c, .int .i64 (m : Int)]).run P w = (Builtin.append_ #[t, tS] ty #[.slice ba n c, .string st]).run P w := by
  obtain ⟨hut, inf, hinf, hsz, hby⟩ := sliOf_spec hk
  obtain ⟨inf', hinf', hz'⟩ := zeroOf_spec hz
  have : inf' = inf := Option.some.inj (hinf'.symm.trans hinf)
  subst this
  have hw : IntKind.i64.wrap (m : Int) = (m : Int) := wrap_i64 (by omega) (by omega)
  have hzc : Builtin.zeroCells #[Value.int .u8 0] m = (List.replicate m (U8 0)).toArray := by
    unfold Builtin.zeroCells
    apply Array.ext'
    apply List.ext_getElem (by simp)
    intro i h1 h2
    simp [Nat.mod_one]
  have hse2 : ∀ w', (Builtin.lenOf (.string st)).run P w' = .ok m w' := fun w' => by simp [Builtin.lenOf, hl]
  have hcell : ∀ w', (Builtin.firstCells 1 m (.string st)).run P w' = .ok (List.replicate m (U8 0)).toArray w' := fun w' => by
    have := firstCells_string (P := P) st w'
    rw [hl] at this
    rw [this]; unfold byteCells; rw [hcs]
  have h0 : ¬ (m : Int) < 0 := by omega
  have ha : ∀ w', (asIntOf (.int .i64 (m : Int))).run P w' = .ok (.i64, (m : Int)) w' := fun _ => by simp [asIntOf]
  have h1' : ¬ 281474976710656 < (m : Int) * (inf'.bytes : Int) := by rw [hby, hb]; omega
  have h0' : m ≠ 0 := by omega
  have h3 : ¬ (9223372036854775807 < (n : Int) + (m : Int)) := by omega
  by_cases hr : n + m ≤ c
  · simp [Builtin.append_, run_underlying hut, run_underlying hu, run_underlying hS, sizeOf, typeInfo, zeroValue, hinf, hz', hsz, asInt, ha, hw, h0, h1', h0', hse2, hr, hcell, hzc, Value.cells]
  · have hf : Builtin.nextslicecap (n + m) c * inf'.bytes ≤ 281474976710656 := growslice_fits (by omega) (by rw [hby, hb]; omega)
    have hf' : ¬ 281474976710656 < Builtin.nextslicecap (n + m) c * inf'.bytes := by omega
    simp [Builtin.append_, run_underlying hut, run_underlying hu, run_underlying hS, sizeOf, typeInfo, zeroValue, hinf, hz', hsz, asInt, ha, hw, h0, h1', h0', hse2, hr, hcell, hzc, Value.cells, h3, hf']

theorem has_cells {b : Nat} {cs junk : List Value} {e : TypeId} {fz : Nat × Nat} : Has [⟨b, .cells (cs ++ junk).toArray e fz⟩] (some ⟨b, 0, none⟩) cs := fun w0 mods w hi i v hv => by
  have hlt : i < cs.length := (List.getElem?_eq_some_iff.1 hv).1
  exact sees_all (bs := cs ++ junk) (.head _) w hi i v (by rw [List.getElem?_append_left hlt]; exact hv)
theorem run_appendZM {P : Program} {w0 w : World} {mods : List Nat} {L R : List Ent} {t u tS e e' ty bytes n c m b : Nat} {xs junk : List Value} {st : ByteArray} (hl : st.size = m) (hcs : st.data.toList.map U8 = List.replicate m (U8 0)) (hk : sliOf P t = some (e, 1, bytes)) (hb : bytes = 1) (hz : zeroOf P e = some (.int .u8 0)) (hu : P.underlying u = some (.int .i64)) (hS : P.underlying tS = some .string) (hm : 0 < m) (hbound : n + m ≤ 140737488355328)
    (hxl : xs.length = n) (hc : c = n + junk.length) (hp : List.Perm L (markE b (xs ++ junk) e' :: R)) (hi : Inv w0 mods L w) :
    ∃ w' ba' c' N', (Builtin.append_ #[t, u] ty #[.slice (some ⟨b, 0, none⟩) n c, .int .i64 (m : Int)]).run P w = .ok (.slice ba' (n + m) c') w' ∧ Has N' ba' (xs ++ List.replicate m (U8 0)) ∧ n + m ≤ c' ∧ Inv w0 mods (N' ++ R) w' := by
  rw [append_zeros hl hcs hk hb hz hu hS hm hbound]
  obtain ⟨hut, inf, hinf, hsz, hby⟩ := sliOf_spec hk
  obtain ⟨inf', hinf', hz'⟩ := zeroOf_spec hz
  have : inf' = inf := Option.some.inj (hinf'.symm.trans hinf)
  subst this
  have hi := hi.perm hp
  have hbk := hi.has _ (.head _)
  have hbk : w.heap[b]? = some (.cells (xs ++ junk).toArray e' ((xs ++ junk).length, (xs ++ junk).length + 1)) := hbk
  have hS' : Src P inf'.size tS (.string st) m (List.replicate m (U8 0)) w := by
    have := Src.ofString w hS st
    rw [hl] at this; unfold byteCells at this; rw [hsz]; rw [hcs] at this; exact this
  have h1 := hS'.one
  have hlen : (List.replicate m (U8 0)).length = m := List.length_replicate
  by_cases hroom : n + m ≤ c
  · have hfits : n + (List.replicate m (U8 0)).length ≤ (xs ++ junk).length := by rw [hlen, List.length_append, hxl]; omega
    have hcell : ∀ j, j < (List.replicate m (U8 0)).length → (w.cell? ⟨b, 0 + n * inf'.size + j, none⟩).isSome = true := fun j hj => by
      rw [hsz, Nat.mul_one, Nat.zero_add]
      simp [World.cell?, hbk]
      rw [hlen] at hj; omega
    have hfro : ∀ j, j < (List.replicate m (U8 0)).length → w.frozen? ⟨b, 0 + n * inf'.size + j, none⟩ = false := fun j hj => by
      rw [hsz, Nat.mul_one, Nat.zero_add]
      simp [World.frozen?, hbk]
      rw [hlen] at hj; omega
    have hrun := run_append_room_src w t tS ty e inf' hut hinf b 0 n c (.string st) m _ hS' hroom hcell hfro
    rw [hsz, Nat.mul_one, Nat.zero_add] at hrun
    obtain ⟨i1, i2, i3, i4, i5, i6⟩ := setCells_heap b e' _ (List.replicate m (U8 0)) n (xs ++ junk) w hbk hfits
    have hsp : splice (xs ++ junk) n (List.replicate m (U8 0)) = (xs ++ List.replicate m (U8 0)) ++ junk.drop m := by
      unfold splice
      rw [← hxl, List.take_left, hlen, ← List.drop_drop, List.drop_left]
    rw [hsp] at i1
    exact ⟨_, _, _, [⟨b, .cells ((xs ++ List.replicate m (U8 0)) ++ junk.drop m).toArray e' _⟩], hrun, has_cells, hroom, hi.turn .head i1 i2 i3 i4 i5 i6⟩
  · have hg : c < n + m := by omega
    have hf : Builtin.nextslicecap (n + m) c * inf'.bytes ≤ 281474976710656 := growslice_fits hg (by rw [hby, hb]; omega)
    have h63 : ((n + m : Nat) : Int) ≤ 9223372036854775807 := by omega
    have hold : (Builtin.firstCells inf'.size n (.slice (some ⟨b, 0, none⟩) n c)).run P w.drew = .ok xs.toArray w.drew := by
      rw [hsz]
      exact run_firstCells_some w.drew 1 n ⟨b, 0, none⟩ n c xs (by omega) (fun j v hv => by
        have hlt : j < xs.length := (List.getElem?_eq_some_iff.1 hv).1
        obtain ⟨a', ha, hc⟩ := sees_all (bs := xs ++ junk) (List.mem_cons_self ..) w.drew (hi.drew _) j v (by rw [List.getElem?_append_left hlt]; exact hv)
        cases ha; exact hc)
    have hrun := run_append_grow_src w t tS ty e inf' _ hut hinf hz' (some ⟨b, 0, none⟩) n c xs hold (.string st) m _ hS' hg h63 hf
    have hp2 := (hi.drew (w.drawn + 1)).push (.cells ((xs ++ List.replicate m (U8 0)).toArray ++ Builtin.zeroCells (Value.int .u8 0).cells (grownCap w (n + m) c e - (n + m))) e)
    have heq : ((xs ++ List.replicate m (U8 0)).toArray ++ Builtin.zeroCells (Value.int .u8 0).cells (grownCap w (n + m) c e - (n + m))) = ((xs ++ List.replicate m (U8 0)) ++ (Builtin.zeroCells (Value.int .u8 0).cells (grownCap w (n + m) c e - (n + m))).toList).toArray := by
      apply Array.ext'; simp
    rw [heq] at hp2 hrun
    exact ⟨_, _, _, [⟨w.heap.size, .cells ((xs ++ List.replicate m (U8 0)) ++ (Builtin.zeroCells (Value.int .u8 0).cells (grownCap w (n + m) c e - (n + m))).toList).toArray e (0, 0)⟩], hrun, has_cells, grownCap_ge w (n + m) c e, hp2.sub (List.Sublist.cons_cons _ (List.sublist_cons_self _ _))⟩
section
variable {P : Program} {n : Nat} {w0 : World} {mods : List Nat} {k : Kont} {E : Env} {L : List Ent} {dst : Option Tmp} {T t ty : TypeId} {pos : String} {after : Array Edge} {g : Option (Nat × Bool)} {x y z : Operand}
theorem gs_appendZM {ops : List Oper} {Q : Exit → Act → World → Prop} {K : Act → World → Prop} {R : List Ent} {u tS e e' bytes nn c m b d : Nat} {xs junk : List Value} {v : Value} {st : ByteArray} (hl : st.size = m) (hcs : st.data.toList.map U8 = List.replicate m (U8 0)) (hk : sliOf P t = some (e, 1, bytes)) (hb : bytes = 1) (hz : zeroOf P e = some (.int .u8 0)) (hu : P.underlying u = some (.int .i64)) (hS : P.underlying tS = some .string) (hm : 0 < m) (hbound : nn + m ≤ 140737488355328)
    (hxl : xs.length = nn) (hc : c = nn + junk.length) (hp : List.Perm L (markE b (xs ++ junk) e' :: R))
    (hx : Env.ev E x = some (.slice (some ⟨b, 0, none⟩) nn c)) (hy : Env.ev E y = some v) (hv : v = .int .i64 (m : Int)) (hw : Env.wants E ops g = some true) (hn : Nat.ble (d + 1) n = true)
    (h : ∀ ba' c' N', Has N' ba' (xs ++ List.replicate m (U8 0)) → nn + m ≤ c' → GX n w0 mods K ((d, .slice ba' (nn + m) c') :: E) (N' ++ R)) :
    GX n w0 mods (stepOp P ops Q (⟨some d, .call ⟨.builtin .append, #[x, y], #[t, u]⟩, T, pos, after, g⟩) K) E L := by
  intro a w hf hi
  subst hv
  unfold stepOp
  rw [if_pos (hf.wants hw)]
  refine .inl ?_
  unfold Oper.wp
  obtain ⟨w', ba', c', N', hrun, ho, hcap, hi'⟩ := run_appendZM (ty := T) hl hcs hk hb hz hu hS hm hbound hxl hc hp hi
  have : (execOp a.eval ⟨some d, .call ⟨.builtin .append, #[x, y], #[t, u]⟩, T, pos, after, g⟩).run P w = .ok (.value (.slice ba' (nn + m) c')) w' := by
    simp [execOp, resolve, invoke, builtin, hf.eval hx, hf.eval hy, hrun]
  rw [this]
  exact h _ _ _ ho hcap _ _ (hf.put (Nat.le_of_ble_eq_true hn)) hi'
theorem gs_strBytesM {ops : List Oper} {Q : Exit → Act → World → Prop} {K : Act → World → Prop} {s d2 e d : Nat} {st : ByteArray} (hs : P.underlying s = some .string) (hd : P.underlying d2 = some (.slice e)) (he : P.underlying e = some (.int .u8)) (hx : Env.ev E x = some (.string st)) (hw : Env.wants E ops g = some true) (hn : Nat.ble (d + 1) n = true)
    (h : ∀ b c junk, c = st.size + junk.length → GX n w0 mods K ((d, .slice (some ⟨b, 0, none⟩) st.size c) :: E) (markE b (st.data.toList.map U8 ++ junk) e :: L)) :
    GX n w0 mods (stepOp P ops Q (⟨some d, .convert s d2 x, T, pos, after, g⟩) K) E L := by
  intro a w hf hi
  unfold stepOp
  rw [if_pos (hf.wants hw)]
  refine .inl ?_
  unfold Oper.wp
  have hrun := run_bytes_of_string (P := P) w s d2 e st hs hd he
  have hcs : bytesRow st (grownCap w st.size 0 e) = (st.data.toList.map U8 ++ List.replicate (grownCap w st.size 0 e - st.size) (Value.int .u8 0)).toArray := by
    unfold bytesRow
    apply Array.ext'; simp [U8]
  have hrun2 : (execOp a.eval ⟨some d, .convert s d2 x, T, pos, after, g⟩).run P w = .ok (.value (.slice (some ⟨w.heap.size, 0, none⟩) st.size (grownCap w st.size 0 e)))
      (w.drew.alloc (.cells (bytesRow st (grownCap w st.size 0 e)) e ((bytesRow st (grownCap w st.size 0 e)).size, (bytesRow st (grownCap w st.size 0 e)).size + 1))) := by
    simp only [execOp, Sem.run_bind, hf.eval hx, hrun, Result.andThen_ok, Sem.run_pure]
  have hsz : (st.data.toList.map U8 ++ List.replicate (grownCap w st.size 0 e - st.size) (Value.int .u8 0)).toArray.size = (st.data.toList.map U8 ++ List.replicate (grownCap w st.size 0 e - st.size) (Value.int .u8 0)).length := rfl
  rw [hrun2, hcs, hsz]
  have hp := (hi.drew (w.drawn + 1)).push (.cells (st.data.toList.map U8 ++ List.replicate (grownCap w st.size 0 e - st.size) (Value.int .u8 0)).toArray e ((st.data.toList.map U8 ++ List.replicate (grownCap w st.size 0 e - st.size) (Value.int .u8 0)).length, (st.data.toList.map U8 ++ List.replicate (grownCap w st.size 0 e - st.size) (Value.int .u8 0)).length + 1))
  have hge := grownCap_ge w st.size 0 e
  exact h _ _ _ (by rw [List.length_replicate]; omega) _ _ (hf.put (Nat.le_of_ble_eq_true hn)) hp
end
theorem size_mk (l : List UInt8) : (ByteArray.mk l.toArray).size = l.length := by simp [ByteArray.size]
theorem zst (m : Nat) : ∃ z : List UInt8, z.length = m ∧ z.map U8 = List.replicate m (U8 0) := ⟨List.replicate m 0, by simp, by simp⟩
theorem sub_one_head {e : Ent} {L : List Ent} (h : e ∈ L) : List.Sublist [e] L := List.singleton_sublist.2 h
end Go.Eng
