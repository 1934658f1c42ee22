/-
  Engine, part L: parts of values, new rows, copies, addresses of arrays inside rows, exclusive or of bytes.
-/
import Derived.Test.YtddckbhlfeegoaaEngJ
namespace Go.Eng
open Go
set_option linter.unusedVariables false
set_option linter.unusedSimpArgs false
section
variable {P : Program} {n : Nat} {w0 : World} {mods : List Nat} {E : Env} {L : List Ent} {dst : Option Tmp} {T t ty : TypeId} {pos : String} {after : Array Edge} {g : Option (Nat × Bool)} {x y z : Operand} {cs ds : List Value} {pa : Option Addr}

/-- An array's length and its elements' type, if an element has one cell. -/
def eltOf (P : Program) (t : TypeId) : Option (Nat × TypeId) :=
  match P.underlying t with
  | some (.array n e) => match aggOf P e with
    | some none => some (n, e)
    | _ => none
  | _ => none
theorem aggOf_none {e : TypeId} (h : aggOf P e = some none) : (∃ d, P.underlying e = some d ∧ (∀ fs, d ≠ .struct fs) ∧ ∀ n u, d ≠ .array n u) ∧ ∃ i, P.info? e = some i ∧ i.size = 1 := by
  unfold aggOf at h
  cases hd : P.underlying e with
  | none => rw [hd] at h; simp at h
  | some d =>
    cases hi : P.info? e with
    | none => rw [hd, hi] at h; cases d <;> simp at h
    | some i =>
      rw [hd, hi] at h
      cases d <;> simp at h <;> exact ⟨⟨_, rfl, by intros; simp, by intros; simp⟩, i, rfl, h⟩
theorem run_isAgg_no {e : TypeId} (h : aggOf P e = some none) (w : World) : (isAgg e).run P w = .ok false w := by
  obtain ⟨⟨d, hd, h1, h2⟩, _⟩ := aggOf_none h
  unfold isAgg
  rw [Sem.run_bind, run_underlying hd, Result.andThen_ok]
  cases d <;> first | rfl | exact absurd rfl (h1 _) | exact absurd rfl (h2 _ _)
theorem run_part1 {e : TypeId} (h : aggOf P e = some none) {cs : List Value} {m : Nat} {v : Value} (hv : cs[m]? = some v) (w : World) : (part e cs.toArray m).run P w = .ok v w := by
  unfold part
  rw [Sem.run_bind, run_isAgg_no h, Result.andThen_ok]
  simp [hv]
theorem val_indexV {len e m : Nat} {q : IntKind} {j : Int} {v : Value} (hk : eltOf P t = some (len, e)) (hx : Env.ev E x = some (.agg cs.toArray)) (hy : Env.ev E y = some (.int q j)) (hj : j = (m : Int)) (hm : m < len) (hv : cs[m]? = some v) :
    Val P n w0 mods E L ⟨dst, .index t x y, T, pos, after, g⟩ v := fun a w hf hi => by
  subst hj
  unfold eltOf at hk
  split at hk
  · rename_i n' e' hu
    split at hk
    · rename_i he
      cases hk
      obtain ⟨_, i, hi2, hs⟩ := aggOf_none he
      have h1 : (0 : Int) ≤ (m : Int) ∧ (m : Int) < (len : Int) := by omega
      simp [execOp, Instr.index, asIntOf, hf.eval hx, hf.eval hy, run_underlying hu, sizeOf, typeInfo, hi2, hs, hm, run_part1 he hv]
    · cases hk
  · cases hk
theorem val_arrPtr {ba : Option Addr} {len cap an size : Nat} (hk : arrOf P t = some (an, size)) (hx : Env.ev E x = some (.slice ba len cap)) (hl : an ≤ len) :
    Val P n w0 mods E L ⟨dst, .sliceToArrayPointer t x, T, pos, after, g⟩ (.pointer ba) := fun a w hf hi => by
  obtain ⟨e, hu, _⟩ := arrOf_spec hk
  have : ¬ len < an := by omega
  simp [execOp, Instr.arrayAt, hf.eval hx, run_underlying hu, this]
theorem xor8 (i j : UInt8) : Op.intBits .xor .u8 (i.toNat : Int) (j.toNat : Int) = pure (U8 (i ^^^ j)) := by
  show pure (Value.int .u8 (IntKind.u8.wrap ((BitVec.ofInt 8 (i.toNat : Int) ^^^ BitVec.ofInt 8 (j.toNat : Int)).toNat : Int))) = _
  have h (i : UInt8) : BitVec.ofInt 8 (i.toNat : Int) = i.toBitVec := by
    rw [BitVec.ofInt_natCast]; apply BitVec.eq_of_toNat_eq; simp
  rw [h, h, wrap_u8]
  have h2 : ((i.toBitVec ^^^ j.toBitVec).toNat : Int) % 256 = ((i.toBitVec ^^^ j.toBitVec).toNat : Int) := by
    have := (i.toBitVec ^^^ j.toBitVec).isLt; omega
  rw [h2]; rfl
theorem val_xor8 {i j : UInt8} (hx : Env.ev E x = some (U8 i)) (hy : Env.ev E y = some (U8 j)) : Val P n w0 mods E L ⟨dst, .binOp .xor t x y ty, T, pos, after, g⟩ (U8 (i ^^^ j)) := fun a w hf _ => by
  simp [execOp, hf.eval hx, hf.eval hy, eqGuard_int, binOp, xor8]

theorem val_rem8 {b : UInt8} {k : Nat} {j : Int} (hx : Env.ev E x = some (U8 b)) (hy : Env.ev E y = some (.int .u8 j)) (hj : j = (k : Int)) (hk : 0 < k) : Val P n w0 mods E L ⟨dst, .binOp .rem t x y ty, T, pos, after, g⟩ (.int .u8 ((b.toNat % k : Nat) : Int)) := by
  subst hj
  have h : Int.tmod (b.toNat : Int) (k : Int) = ((b.toNat % k : Nat) : Int) := by rw [Int.tmod_eq_emod_of_nonneg (by omega)]; rfl
  have := val_remT (P := P) (n := n) (w0 := w0) (mods := mods) (L := L) (dst := dst) (T := T) (t := t) (ty := ty) (pos := pos) (after := after) (g := g) hx hy (by omega)
  rwa [h] at this
theorem val_quo8 {b : UInt8} {k : Nat} {j : Int} (hx : Env.ev E x = some (U8 b)) (hy : Env.ev E y = some (.int .u8 j)) (hj : j = (k : Int)) (hk : 0 < k) : Val P n w0 mods E L ⟨dst, .binOp .quo t x y ty, T, pos, after, g⟩ (.int .u8 ((b.toNat / k : Nat) : Int)) := fun a w hf _ => by
  subst hj
  have h : Int.tdiv (b.toNat : Int) (k : Int) = ((b.toNat / k : Nat) : Int) := by rw [Int.tdiv_eq_ediv_of_nonneg (by omega)]; rfl
  have h2 : b.toNat / k ≤ b.toNat := Nat.div_le_self _ _
  have h3 := b.toNat_lt
  have h4 : IntKind.wrap .u8 ((b.toNat / k : Nat) : Int) = ((b.toNat / k : Nat) : Int) := by
    rw [wrap_u8]; generalize b.toNat / k = q at h2; omega
  have hk1 : k ≠ 0 := by omega
  have h5 : IntKind.wrap .u8 ((b.toNat : Int) / (k : Int)) = (b.toNat : Int) / (k : Int) := h4
  have h4 := h5
  simp [execOp, hf.eval hx, hf.eval hy, eqGuard_int, binOp, Op.intDiv, hk1, h4]
theorem val_shr8 {b : UInt8} {q : IntKind} {s k : Nat} {j : Int} (hx : Env.ev E x = some (U8 b)) (hy : Env.ev E y = some (.int q j)) (hj : j = (s : Int)) (hs : s ≤ 8) (hk : 2 ^ s = k) : Val P n w0 mods E L ⟨dst, .binOp .shr t x y ty, T, pos, after, g⟩ (.int .u8 ((b.toNat / k : Nat) : Int)) := fun a w hf _ => by
  subst hj; subst hk
  have h : Op.shift .shr .u8 (b.toNat : Int) q (s : Int) = pure (.int .u8 ((b.toNat / 2 ^ s : Nat) : Int)) := by
    have h0 : ¬ ((s : Int) < 0) := by omega
    simp only [Op.shift, h0, if_false, Int.toNat_natCast]
    congr 2
    rw [Int.fdiv_eq_ediv_of_nonneg _ (Int.pow_nonneg (by decide))]
    show (b.toNat : Int) / 2 ^ min s 8 = ((b.toNat / 2 ^ s : Nat) : Int)
    rw [Nat.min_eq_left hs]
    push_cast
    rfl
  simp [execOp, hf.eval hx, hf.eval hy, eqGuard_int, binOp, h]
theorem val_makeFunc {f : FuncId} {fs hs : List Operand} {us vs : List Value} (hx : EvAll E fs us) (hy : EvAll E hs vs) :
    Val P n w0 mods E L ⟨dst, .makeFunc (.func f) fs.toArray hs.toArray, T, pos, after, g⟩ (.func (.func f) us.toArray vs.toArray) := fun a w hf _ => by
  have h1 : fs.toArray.map a.eval = us.toArray := by rw [List.map_toArray, hx.map hf]
  have h2 : hs.toArray.map a.eval = vs.toArray := by rw [List.map_toArray, hy.map hf]
  simp only [execOp, Instr.makeFunc, h1, h2, Sem.run_bind, Result.andThen_ok, Sem.run_pure]
/-- A new row of zeros. -/
theorem gs_makeSlice {ops : List Oper} {Q : Exit → Act → World → Prop} {K : Act → World → Prop} {e size bytes ln cp d : Nat} {zv : Value} {q q' : IntKind} {j j' : Int} (hk : sliOf P t = some (e, size, bytes)) (hz : zeroOf P e = some zv)
    (hx : Env.ev E x = some (.int q j)) (hy : Env.ev E y = some (.int q' j')) (hj : j = (ln : Int)) (hj' : j' = (cp : Int)) (hlc : ln ≤ cp) (hb1 : Nat.ble 1 bytes = true) (hb : cp * bytes ≤ 140737488355328) (hw : Env.wants E ops g = some true) (hn : Nat.ble (d + 1) n = true)
    (h : ∀ b, GX n w0 mods K ((d, .slice (some ⟨b, 0, none⟩) ln cp) :: E) (⟨b, .cells (zerosOf zv (cp * size)).toArray e (0, 0)⟩ :: L)) :
    GX n w0 mods (stepOp P ops Q (⟨some d, .makeSlice t x y, T, pos, after, g⟩) K) E L := by
  intro a w hf hi
  unfold stepOp
  rw [if_pos (hf.wants hw)]
  refine .inl ?_
  unfold Oper.wp
  obtain ⟨hut, inf, hinf, hsz, hby⟩ := sliOf_spec hk
  obtain ⟨inf', hinf', hz'⟩ := zeroOf_spec hz
  have : inf' = inf := Option.some.inj (hinf'.symm.trans hinf)
  subst this
  have hble := Nat.le_of_ble_eq_true hb1
  have hcp : cp ≤ cp * bytes := Nat.le_mul_of_pos_right _ hble
  have hrun : (execOp a.eval ⟨some d, .makeSlice t x y, T, pos, after, g⟩).run P w = .ok (.value (.slice (some ⟨w.heap.size, 0, none⟩) ln cp)) { w with heap := w.heap.push (.cells (zerosOf zv (cp * size)).toArray e (0, 0)) } := by
    subst hj; subst hj'
    have hwl : IntKind.i64.wrap (ln : Int) = (ln : Int) := wrap_i64 (by omega) (by omega)
    have hwc : IntKind.i64.wrap (cp : Int) = (cp : Int) := wrap_i64 (by omega) (by omega)
    have hbig : ¬ ((bytes : Int) * (cp : Int) > 281474976710656) := by
      have h1 : (bytes : Int) * (cp : Int) = ((cp * bytes : Nat) : Int) := by rw [Nat.mul_comm]; rfl
      rw [h1]; omega
    have hroom : ¬ (cp * bytes > roomBytes) := by unfold roomBytes; have : 2 ^ 47 = 140737488355328 := rfl; omega
    have hrow : (Array.range (cp * size)).map (zv.cells[· % zv.cells.size]!) = (zerosOf zv (cp * size)).toArray := by
      unfold zerosOf; apply Array.ext'; simp
    have hzero : ∀ w : World, ((if cp * size = 0 then pure #[] else do pure (← zeroValue e).cells : Sem (Array Value))).run P w = .ok (if cp * size = 0 then #[] else zv.cells) w := fun w => by
      split
      · rfl
      · simp [zeroValue, typeInfo, hinf, hz']
    have hrow2 : (Array.range (cp * size)).map ((if cp * size = 0 then #[] else zv.cells)[· % (if cp * size = 0 then #[] else zv.cells).size]!) = (zerosOf zv (cp * size)).toArray := by
      split
      · rename_i h0; rw [h0]; unfold zerosOf; simp
      · exact hrow
    have h0 : ¬ ((ln : Int) < 0) := by omega
    have h0' : ¬ ((cp : Int) < 0) := by omega
    have hlc' : ¬ ((ln : Int) > (cp : Int)) := by omega
    have e48 : (2 : Int) ^ 48 = 281474976710656 := by decide
    unfold execOp Instr.makeSlice
    simp only [Sem.run_bind, hf.eval hx, hf.eval hy, run_underlying hut, Result.andThen_ok, asInt, asIntOf, Sem.run_pure, typeInfo, run_program, hinf, hby, hwl, hwc, e48]
    simp [h0, h0', hlc', hbig, askRoom, hroom, hsz, newRow, hlc]
    have hz2 : (zeroValue e).run P w = .ok zv w := by simp [zeroValue, typeInfo, hinf, hz']
    simp only [sizeOf, typeInfo, Sem.run_bind, run_program, Result.andThen_ok, hinf, Sem.run_pure, hsz]
    by_cases hc0 : cp * size = 0
    · rw [hc0]; unfold zerosOf; simp
      rw [show (Array.map (fun x => (default : Value)) (Array.range 0)) = #[] from by simp]
    · rw [if_neg hc0, hz2, Result.andThen_ok, hrow]; rfl
  rw [hrun]
  exact h _ _ _ (hf.put (Nat.le_of_ble_eq_true hn)) (hi.push _)
theorem zerosOf_one {z v : Value} (h : z.cells = #[v]) (m : Nat) : zerosOf z m = List.replicate m v := by
  unfold zerosOf
  rw [h]
  apply List.ext_getElem (by simp)
  intro i h1 h2
  simp [Nat.mod_one]
theorem gs_make1 {ops : List Oper} {Q : Exit → Act → World → Prop} {K : Act → World → Prop} {e bytes ln cp d : Nat} {zv v : Value} {q q' : IntKind} {j j' : Int} (hk : sliOf P t = some (e, 1, bytes)) (hz : zeroOf P e = some zv) (hz1 : zv.cells = #[v])
    (hx : Env.ev E x = some (.int q j)) (hy : Env.ev E y = some (.int q' j')) (hj : j = (ln : Int)) (hj' : j' = (cp : Int)) (hlc : ln ≤ cp) (hb1 : Nat.ble 1 bytes = true) (hb : cp * bytes ≤ 140737488355328) (hw : Env.wants E ops g = some true) (hn : Nat.ble (d + 1) n = true)
    (h : ∀ b, GX n w0 mods K ((d, .slice (some ⟨b, 0, none⟩) ln cp) :: E) (⟨b, .cells (List.replicate cp v).toArray e (0, 0)⟩ :: L)) :
    GX n w0 mods (stepOp P ops Q (⟨some d, .makeSlice t x y, T, pos, after, g⟩) K) E L :=
  gs_makeSlice hk hz hx hy hj hj' hlc hb1 hb hw hn fun b => by
    have := h b
    rw [zerosOf_one hz1, Nat.mul_one]; exact this
theorem own_zeros {e size b m c : Nat} {v : Value} (hs : size = 1) (h : m ≤ c) : Own e size (some ⟨b, 0, none⟩) m c (List.replicate m v) [⟨b, .cells (List.replicate c v).toArray e (0, 0)⟩] := by
  subst hs
  have e1 : List.replicate c v = List.replicate m v ++ List.replicate (c - m) v := by rw [List.replicate_append_replicate]; congr 1; omega
  rw [e1]
  exact .blk (by simp) (by simp; omega) h
/-- Cells copied to the head of a block. -/
theorem gs_copy {ops : List Oper} {Q : Exit → Act → World → Prop} {K : Act → World → Prop} {L' : List Ent} {b e et dn dc m c k d size bytes : Nat} {u : TypeId} {ba : Option Addr} {cs cs' ys : List Value} (hk : sliOf P t = some (et, size, bytes))
    (hx : Env.ev E x = some (.slice (some ⟨b, 0, none⟩) dn dc)) (hy : Env.ev E y = some (.slice ba m c)) (hkk : Nat.min m dn = k) (hs : Sees w0 mods L ba ys) (hl : ys.length = k * size) (h1 : ∀ v ∈ ys, v.oneCell' = true)
    (hw : Env.wants E ops g = some true) (hn : Nat.ble (d + 1) n = true) (hr : Repl L b (.cells cs.toArray e (0, 0)) (.cells cs'.toArray e (0, 0)) L') (hfit : ys.length ≤ cs.length) (hsp : splice cs 0 ys = cs')
    (h : GX n w0 mods K ((d, I64 (k : Int)) :: E) L') : GX n w0 mods (stepOp P ops Q (⟨some d, .call ⟨.builtin .copy, #[x, y], #[t, u]⟩, T, pos, after, g⟩) K) E L := by
  intro a w hf hi
  unfold stepOp
  rw [if_pos (hf.wants hw)]
  refine .inl ?_
  unfold Oper.wp
  obtain ⟨hut, inf, hinf, hsz, hby⟩ := sliOf_spec hk
  subst hsp
  obtain ⟨w', hst, hi'⟩ := Inv.store (off := 0) (vs := ys) hi hr (by omega) h1 P
  have hcells : (Builtin.firstCells size k (.slice ba m c)).run P w = .ok ys.toArray w := by
    cases ba with
    | none =>
      cases ys with
      | nil => rfl
      | cons y ys =>
        obtain ⟨a, ha, _⟩ := hs w hi 0 y rfl
        cases ha
    | some a =>
      exact run_firstCells_some w size k a m c ys hl (fun j v hv => by
        obtain ⟨a', ha, hc⟩ := hs w hi j v hv
        cases ha; exact hc)
  have hrun : (execOp a.eval ⟨some d, .call ⟨.builtin .copy, #[x, y], #[t, u]⟩, T, pos, after, g⟩).run P w = .ok (.value (I64 (k : Int))) w' := by
    simp [execOp, resolve, invoke, builtin, hf.eval hx, hf.eval hy, Builtin.copy_, run_underlying hut, Builtin.lenOf, sizeOf, typeInfo, hinf, hsz, hkk, hcells, hst, goInt]
  rw [hrun]
  exact h _ _ (hf.put (Nat.le_of_ble_eq_true hn)) hi'
end
end Go.Eng
