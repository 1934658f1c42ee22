/-
  Engine, part C: the operations on values.
-/
import Derived.Test.YtddckbhlfeegoaaEngB
import Derived.Laws.Entries
import Derived.Laws.CopyRow
import Derived.Laws.Append
import Derived.Laws.BytesString
import Derived.IntWalk
namespace Go.Eng
open Go
set_option linter.unusedVariables false
set_option linter.unusedSimpArgs false

/-! ### numbers -/
@[reducible] def U64 (x : BitVec 64) : Value := .int .u64 (x.toNat : Int)
@[reducible] def U8 (b : UInt8) : Value := .int .u8 (b.toNat : Int)
@[reducible] def I64 (n : Int) : Value := .int .i64 n
/-- Byte i of a word, the lowest first. -/
def bt (x : BitVec 64) (i : Nat) : UInt8 := ⟨(x >>> (8 * i)).setWidth 8⟩
@[reducible] def digB (x : BitVec 64) : List UInt8 := [bt x 0, bt x 1, bt x 2, bt x 3, bt x 4, bt x 5, bt x 6, bt x 7]
@[reducible] def digL (x : BitVec 64) : List Value := [U8 (bt x 0), U8 (bt x 1), U8 (bt x 2), U8 (bt x 3), U8 (bt x 4), U8 (bt x 5), U8 (bt x 6), U8 (bt x 7)]
/-- A digest. -/
@[reducible] def Dig (x : BitVec 64) : Value := .agg (digL x).toArray

theorem wrap_u64 (n : Int) : IntKind.u64.wrap n = n % 18446744073709551616 := by simp [IntKind.wrap, IntKind.signed, IntKind.bits]
theorem wrap_u8 (n : Int) : IntKind.u8.wrap n = n % 256 := by simp [IntKind.wrap, IntKind.signed, IntKind.bits]
theorem wrap_i64 {n : Int} (h1 : -9223372036854775808 ≤ n) (h2 : n ≤ 9223372036854775807) : IntKind.i64.wrap n = n := IntWalk.i64_in _ ⟨h1, h2⟩
theorem wrap_toNat (x : BitVec 64) : IntKind.u64.wrap (x.toNat : Int) = (x.toNat : Int) := by
  rw [wrap_u64]; have := x.isLt; omega
theorem wrap64_eq (n : Int) : IntKind.u64.wrap n = ((BitVec.ofInt 64 n).toNat : Int) := by
  rw [wrap_u64, BitVec.toNat_ofInt]
  have : (0 : Int) ≤ n % (2 ^ 64 : Nat) := Int.emod_nonneg _ (by decide)
  simp only [Nat.reducePow] at *
  omega
theorem ofInt_toNat (x : BitVec 64) : BitVec.ofInt 64 (x.toNat : Int) = x := by
  rw [BitVec.ofInt_natCast]; simp

theorem xor64 (i j : BitVec 64) : Op.intBits .xor .u64 (i.toNat : Int) (j.toNat : Int) = pure (U64 (i ^^^ j)) := by
  show pure (Value.int .u64 (IntKind.u64.wrap ((BitVec.ofInt 64 (i.toNat : Int) ^^^ BitVec.ofInt 64 (j.toNat : Int)).toNat : Int))) = _
  rw [ofInt_toNat, ofInt_toNat, wrap_toNat]
theorem or64 (i j : BitVec 64) : Op.intBits .or .u64 (i.toNat : Int) (j.toNat : Int) = pure (U64 (i ||| j)) := by
  show pure (Value.int .u64 (IntKind.u64.wrap ((BitVec.ofInt 64 (i.toNat : Int) ||| BitVec.ofInt 64 (j.toNat : Int)).toNat : Int))) = _
  rw [ofInt_toNat, ofInt_toNat, wrap_toNat]
theorem and64 (i j : BitVec 64) : Op.intBits .and .u64 (i.toNat : Int) (j.toNat : Int) = pure (U64 (i &&& j)) := by
  show pure (Value.int .u64 (IntKind.u64.wrap ((BitVec.ofInt 64 (i.toNat : Int) &&& BitVec.ofInt 64 (j.toNat : Int)).toNat : Int))) = _
  rw [ofInt_toNat, ofInt_toNat, wrap_toNat]
theorem shl64 (i : BitVec 64) (q : IntKind) (s : Nat) : Op.shift .shl .u64 (i.toNat : Int) q (s : Int) = pure (U64 (i <<< s)) := by
  have h0 : ¬ ((s : Int) < 0) := by omega
  simp only [Op.shift, h0, if_false, U64, Int.toNat_natCast]
  congr 2
  rw [wrap_u64, BitVec.toNat_shiftLeft, Nat.shiftLeft_eq]
  show (i.toNat : Int) * 2 ^ min s 64 % 18446744073709551616 = ((i.toNat * 2 ^ s % 2 ^ 64 : Nat) : Int)
  rcases Nat.lt_or_ge s 64 with h | h
  · rw [Nat.min_eq_left (by omega)]
    generalize hp : i.toNat * 2 ^ s = p
    have : (i.toNat : Int) * 2 ^ s = (p : Int) := by rw [← hp]; simp
    rw [this]
    show (p : Int) % ((18446744073709551616 : Nat) : Int) = _
    rw [← Int.natCast_emod]
  · rw [Nat.min_eq_right h]
    obtain ⟨r, rfl⟩ : ∃ r, s = 64 + r := ⟨s - 64, by omega⟩
    have h2 : i.toNat * 2 ^ (64 + r) % 2 ^ 64 = 0 := by
      rw [Nat.pow_add, Nat.mul_left_comm]
      exact Nat.mul_mod_right _ _
    rw [h2]
    have h1 : (2 : Int) ^ 64 = 18446744073709551616 := by decide
    rw [h1, Int.mul_emod_left]; rfl
theorem shr64 (i : BitVec 64) (q : IntKind) (s : Nat) : Op.shift .shr .u64 (i.toNat : Int) q (s : Int) = pure (U64 (i >>> s)) := by
  have h0 : ¬ ((s : Int) < 0) := by omega
  simp only [Op.shift, h0, if_false, U64, Int.toNat_natCast]
  congr 2
  rw [BitVec.toNat_ushiftRight, Nat.shiftRight_eq_div_pow, Int.fdiv_eq_ediv_of_nonneg _ (Int.pow_nonneg (by decide))]
  show (i.toNat : Int) / 2 ^ min s 64 = ((i.toNat / 2 ^ s : Nat) : Int)
  rcases Nat.lt_or_ge s 64 with h | h
  · rw [Nat.min_eq_left (by omega)]
    push_cast
    rfl
  · rw [Nat.min_eq_right h]
    have h1 := i.isLt
    have h3 : i.toNat / 2 ^ s = 0 := Nat.div_eq_of_lt (Nat.lt_of_lt_of_le h1 (Nat.pow_le_pow_right (by decide) h))
    have h2 : (i.toNat : Int) / 2 ^ 64 = 0 := Int.ediv_eq_zero_of_lt (by omega) (by simpa using by omega)
    rw [h3, h2]; rfl
theorem quo64 (i j : BitVec 64) (h : j ≠ 0) : Op.intDiv .quo .u64 (i.toNat : Int) (j.toNat : Int) = pure (U64 (i / j)) := by
  have hj : ¬ ((j.toNat : Int) = 0) := fun e => h (BitVec.eq_of_toNat_eq (by simpa using e))
  simp only [Op.intDiv, hj, if_false, U64]
  congr 2
  rw [Int.tdiv_eq_ediv_of_nonneg (by omega), ← Int.natCast_ediv, wrap_u64, BitVec.toNat_udiv]
  have h1 := i.isLt
  have h2 : i.toNat / j.toNat ≤ i.toNat := Nat.div_le_self _ _
  generalize i.toNat / j.toNat = r at *
  omega
theorem rem64 (i j : BitVec 64) (h : j ≠ 0) : Op.intDiv .rem .u64 (i.toNat : Int) (j.toNat : Int) = pure (U64 (i % j)) := by
  have hj : ¬ ((j.toNat : Int) = 0) := fun e => h (BitVec.eq_of_toNat_eq (by simpa using e))
  simp only [Op.intDiv, hj, if_false, U64]
  congr 2

section
variable {P : Program} {n : Nat} {w0 : World} {mods : List Nat} {k : Kont} {E : Env} {L : List Ent}
variable {dst : Option Tmp} {T t ty : TypeId} {pos : String} {after : Array Edge} {g : Option (Nat × Bool)} {x y z : Operand} {op : BinOp}

/-- An operation that yields a value and leaves the world as it is. -/
def Val (P : Program) (n : Nat) (w0 : World) (mods : List Nat) (E : Env) (L : List Ent) (o : Oper) (v : Value) : Prop :=
  ∀ a w, Fits n E a → Inv w0 mods L w → (execOp a.eval o).run P w = .ok (.value v) w

theorem gs_val {ops : List Oper} {Q : Exit → Act → World → Prop} {K : Act → World → Prop} {o : Oper} {v : Value} {d : Nat} (hv : Val P n w0 mods E L o v) (hw : Env.wants E ops o.guard = some true) (hd : o.dst = some d) (hn : Nat.ble (d + 1) n = true)
    (h : GX n w0 mods K ((d, v) :: E) L) : GX n w0 mods (stepOp P ops Q o K) E L := by
  intro a w hf hi
  unfold stepOp
  rw [if_pos (hf.wants hw)]
  refine .inl ?_
  unfold Oper.wp
  rw [hv a w hf hi]
  show K (a.put o.dst v) w
  rw [hd]
  exact h _ _ (hf.put (Nat.le_of_ble_eq_true hn)) hi
theorem gs_skip {ops : List Oper} {Q : Exit → Act → World → Prop} {K : Act → World → Prop} {o : Oper} {d : Nat} (hw : Env.wants E ops o.guard = some false) (hd : o.dst = some d) (hn : Nat.ble (d + 1) n = true)
    (h : GX n w0 mods K ((d, undef) :: E) L) : GX n w0 mods (stepOp P ops Q o K) E L := by
  intro a w hf hi
  unfold stepOp
  rw [if_neg (by rw [hf.wants hw]; decide), hd]
  exact h _ _ (hf.put (Nat.le_of_ble_eq_true hn)) hi
theorem gq_val {ops tail rest : List Oper} {o : Oper} {v : Value} {d : Nat} (hv : Val P n w0 mods E L o v) (hw : Env.wants E ops o.guard = some true) (hd : o.dst = some d) (hn : Nat.ble (d + 1) n = true)
    (h : GQ P n w0 mods ops tail rest k ((d, v) :: E) L) : GQ P n w0 mods ops tail (o :: rest) k E L := by
  intro a hf
  unfold wpQuiet
  rw [if_pos (hf.wants hw)]
  refine ⟨v, fun w hi => ?_, ?_⟩
  · unfold Oper.quietAt
    rw [hv a w hf hi]
    exact ⟨rfl, rfl⟩
  · rw [hd]; exact h _ (hf.put (Nat.le_of_ble_eq_true hn))
theorem gq_skip {ops tail rest : List Oper} {o : Oper} {d : Nat} (hw : Env.wants E ops o.guard = some false) (hd : o.dst = some d) (hn : Nat.ble (d + 1) n = true)
    (h : GQ P n w0 mods ops tail rest k ((d, undef) :: E) L) : GQ P n w0 mods ops tail (o :: rest) k E L := by
  intro a hf
  unfold wpQuiet
  rw [if_neg (by rw [hf.wants hw]; decide), hd]
  exact h _ (hf.put (Nat.le_of_ble_eq_true hn))

theorem ga_take {l : List Oper} {m i d : Nat} {ls ls' : List Bool} {o : Oper} {v : Value} (ho : l[i]? = some o) (hc : takeB l ls i = true) (hls : ls.set i true = ls') (hv : ∀ w0 mods L, Val P n w0 mods E L o v) (hw : Env.wants E l o.guard = some true) (hd : o.dst = some d) (hn : Nat.ble (d + 1) n = true)
    (h : GA P n w0 mods l m ls' k ((d, v) :: E) L) : GA P n w0 mods l (m + 1) ls k E L := by
  intro a w hf hi
  subst hls
  simp only [takeB, Bool.and_eq_true] at hc
  refine wpAny_take (oi := o) (v := v) (by simpa using ho) hc.1.1 hc.1.2 hc.2 (fun c a w h => den_panic k c _ _ a w h) (.inl ⟨hf.wants hw, fun w' => hv w' [] [] a w' hf (Inv.start (L := []) (fun e he => by cases he) (by simp))⟩) ?_
  have := h _ w (hf.put (v := v) (Nat.le_of_ble_eq_true hn)) hi
  rw [hd]
  simpa using this

/-! moves, choices -/
theorem val_move {v : Value} (hx : Env.ev E x = some v) : Val P n w0 mods E L ⟨dst, .move x, T, pos, after, g⟩ v := fun a w hf _ => by
  simp [execOp, hf.eval hx]
theorem val_assign {v : Value} (hx : Env.ev E x = some v) : Val P n w0 mods E L ⟨dst, .assign x, T, pos, after, g⟩ v := fun a w hf _ => by
  simp [execOp, hf.eval hx]
theorem val_pick_t {v : Value} (hc : Env.ev E z = some (.bool true)) (hx : Env.ev E x = some v) : Val P n w0 mods E L ⟨dst, .pick z x y, T, pos, after, g⟩ v := fun a w hf _ => by
  simp [execOp, hf.eval hc, hf.eval hx, asBool]
theorem val_pick_f {v : Value} (hc : Env.ev E z = some (.bool false)) (hy : Env.ev E y = some v) : Val P n w0 mods E L ⟨dst, .pick z x y, T, pos, after, g⟩ v := fun a w hf _ => by
  simp [execOp, hf.eval hc, hf.eval hy, asBool]
theorem val_not {b : Bool} (hx : Env.ev E x = some (.bool b)) : Val P n w0 mods E L ⟨dst, .unOp .not t x, T, pos, after, g⟩ (.bool (!b)) := fun a w hf _ => by
  simp [execOp, hf.eval hx, Op.unary]
theorem val_not_dec {p : Prop} [Decidable p] (hx : Env.ev E x = some (.bool (decide p))) : Val P n w0 mods E L ⟨dst, .unOp .not t x, T, pos, after, g⟩ (.bool (decide (¬ p))) := fun a w hf _ => by
  simp [execOp, hf.eval hx, Op.unary]

/-! whole numbers of whatever kind -/
theorem eqGuard_int (op : BinOp) (t : TypeId) (x y : Operand) (k k' : IntKind) (a b : Int) (P : Program) (w : World) : (eqGuard op t x y (.int k a) (.int k' b)).run P w = .ok () w := by
  cases op <;> simp [eqGuard]

theorem val_add {q : IntKind} {i j : Int} (hx : Env.ev E x = some (.int q i)) (hy : Env.ev E y = some (.int q j)) : Val P n w0 mods E L ⟨dst, .binOp .add t x y ty, T, pos, after, g⟩ (.int q (q.wrap (i + j))) := fun a w hf _ => by
  simp [execOp, hf.eval hx, hf.eval hy, eqGuard_int, binOp, Op.intArith]
theorem val_sub {q : IntKind} {i j : Int} (hx : Env.ev E x = some (.int q i)) (hy : Env.ev E y = some (.int q j)) : Val P n w0 mods E L ⟨dst, .binOp .sub t x y ty, T, pos, after, g⟩ (.int q (q.wrap (i - j))) := fun a w hf _ => by
  simp [execOp, hf.eval hx, hf.eval hy, eqGuard_int, binOp, Op.intArith]
theorem val_mul {q : IntKind} {i j : Int} (hx : Env.ev E x = some (.int q i)) (hy : Env.ev E y = some (.int q j)) : Val P n w0 mods E L ⟨dst, .binOp .mul t x y ty, T, pos, after, g⟩ (.int q (q.wrap (i * j))) := fun a w hf _ => by
  simp [execOp, hf.eval hx, hf.eval hy, eqGuard_int, binOp, Op.intArith]
theorem val_addI {i j : Int} (hx : Env.ev E x = some (I64 i)) (hy : Env.ev E y = some (I64 j)) (h : -9223372036854775808 ≤ i + j ∧ i + j ≤ 9223372036854775807) : Val P n w0 mods E L ⟨dst, .binOp .add t x y ty, T, pos, after, g⟩ (I64 (i + j)) := by
  have := val_add (P := P) (n := n) (w0 := w0) (mods := mods) (L := L) (dst := dst) (T := T) (t := t) (ty := ty) (pos := pos) (after := after) (g := g) hx hy
  rwa [wrap_i64 h.1 h.2] at this
theorem val_subI {i j : Int} (hx : Env.ev E x = some (I64 i)) (hy : Env.ev E y = some (I64 j)) (h : -9223372036854775808 ≤ i - j ∧ i - j ≤ 9223372036854775807) : Val P n w0 mods E L ⟨dst, .binOp .sub t x y ty, T, pos, after, g⟩ (I64 (i - j)) := by
  have := val_sub (P := P) (n := n) (w0 := w0) (mods := mods) (L := L) (dst := dst) (T := T) (t := t) (ty := ty) (pos := pos) (after := after) (g := g) hx hy
  rwa [wrap_i64 h.1 h.2] at this
theorem val_mulI {i j : Int} (hx : Env.ev E x = some (I64 i)) (hy : Env.ev E y = some (I64 j)) (h : -9223372036854775808 ≤ i * j ∧ i * j ≤ 9223372036854775807) : Val P n w0 mods E L ⟨dst, .binOp .mul t x y ty, T, pos, after, g⟩ (I64 (i * j)) := by
  have := val_mul (P := P) (n := n) (w0 := w0) (mods := mods) (L := L) (dst := dst) (T := T) (t := t) (ty := ty) (pos := pos) (after := after) (g := g) hx hy
  rwa [wrap_i64 h.1 h.2] at this
theorem val_quoI {i j : Int} (hx : Env.ev E x = some (I64 i)) (hy : Env.ev E y = some (I64 j)) (h : 0 ≤ i ∧ 0 < j ∧ i ≤ 9223372036854775807) : Val P n w0 mods E L ⟨dst, .binOp .quo t x y ty, T, pos, after, g⟩ (I64 (i / j)) := fun a w hf _ => by
  obtain ⟨h1, h2, h3⟩ := h
  have hj : j ≠ 0 := by omega
  have h0 : 0 ≤ i / j := Int.ediv_nonneg h1 (by omega)
  have h4 : i / j ≤ i := Int.ediv_le_self _ h1
  simp [execOp, hf.eval hx, hf.eval hy, eqGuard_int, binOp, Op.intDiv, hj, Int.tdiv_eq_ediv_of_nonneg h1, wrap_i64 (by omega : -9223372036854775808 ≤ i / j) (by omega)]
theorem val_remI {i j : Int} (hx : Env.ev E x = some (I64 i)) (hy : Env.ev E y = some (I64 j)) (h : 0 ≤ i ∧ j ≠ 0) : Val P n w0 mods E L ⟨dst, .binOp .rem t x y ty, T, pos, after, g⟩ (I64 (i % j)) := fun a w hf _ => by
  obtain ⟨h1, h2⟩ := h
  simp [execOp, hf.eval hx, hf.eval hy, eqGuard_int, binOp, Op.intDiv, h2, Int.tmod_eq_emod_of_nonneg h1]
theorem val_remT {q : IntKind} {i j : Int} (hx : Env.ev E x = some (.int q i)) (hy : Env.ev E y = some (.int q j)) (h : j ≠ 0) : Val P n w0 mods E L ⟨dst, .binOp .rem t x y ty, T, pos, after, g⟩ (.int q (i.tmod j)) := fun a w hf _ => by
  simp [execOp, hf.eval hx, hf.eval hy, eqGuard_int, binOp, Op.intDiv, h]

theorem val_lss {q : IntKind} {i j : Int} (hx : Env.ev E x = some (.int q i)) (hy : Env.ev E y = some (.int q j)) : Val P n w0 mods E L ⟨dst, .binOp .lss t x y ty, T, pos, after, g⟩ (.bool (decide (i < j))) := fun a w hf _ => by
  simp [execOp, hf.eval hx, hf.eval hy, eqGuard_int, binOp, Op.intCmp]
theorem val_leq {q : IntKind} {i j : Int} (hx : Env.ev E x = some (.int q i)) (hy : Env.ev E y = some (.int q j)) : Val P n w0 mods E L ⟨dst, .binOp .leq t x y ty, T, pos, after, g⟩ (.bool (decide (i ≤ j))) := fun a w hf _ => by
  simp [execOp, hf.eval hx, hf.eval hy, eqGuard_int, binOp, Op.intCmp]
theorem val_gtr {q : IntKind} {i j : Int} (hx : Env.ev E x = some (.int q i)) (hy : Env.ev E y = some (.int q j)) : Val P n w0 mods E L ⟨dst, .binOp .gtr t x y ty, T, pos, after, g⟩ (.bool (decide (j < i))) := fun a w hf _ => by
  simp [execOp, hf.eval hx, hf.eval hy, eqGuard_int, binOp, Op.intCmp]
theorem val_geq {q : IntKind} {i j : Int} (hx : Env.ev E x = some (.int q i)) (hy : Env.ev E y = some (.int q j)) : Val P n w0 mods E L ⟨dst, .binOp .geq t x y ty, T, pos, after, g⟩ (.bool (decide (j ≤ i))) := fun a w hf _ => by
  simp [execOp, hf.eval hx, hf.eval hy, eqGuard_int, binOp, Op.intCmp]
theorem val_eql {q : IntKind} {i j : Int} (hx : Env.ev E x = some (.int q i)) (hy : Env.ev E y = some (.int q j)) : Val P n w0 mods E L ⟨dst, .binOp .eql t x y ty, T, pos, after, g⟩ (.bool (decide (i = j))) := fun a w hf _ => by
  simp [execOp, hf.eval hx, hf.eval hy, eqGuard_int, binOp, Op.intCmp]
  rfl
theorem val_neq {q : IntKind} {i j : Int} (hx : Env.ev E x = some (.int q i)) (hy : Env.ev E y = some (.int q j)) : Val P n w0 mods E L ⟨dst, .binOp .neq t x y ty, T, pos, after, g⟩ (.bool (decide (¬ i = j))) := fun a w hf _ => by
  simp [execOp, hf.eval hx, hf.eval hy, eqGuard_int, binOp, Op.intCmp]
  by_cases h : i = j <;> simp [h]

/-! words -/
theorem val_add64 {u v : Value} {i j : BitVec 64} (hx : Env.ev E x = some u) (hy : Env.ev E y = some v) (hu : u = U64 i) (hv : v = U64 j) : Val P n w0 mods E L ⟨dst, .binOp .add t x y ty, T, pos, after, g⟩ (U64 (i + j)) := fun a w hf hi => by
  subst hu; subst hv
  rw [val_add hx hy a w hf hi]
  simp only [U64, wrap_u64, BitVec.toNat_add]; congr 3
theorem val_sub64 {u v : Value} {i j : BitVec 64} (hx : Env.ev E x = some u) (hy : Env.ev E y = some v) (hu : u = U64 i) (hv : v = U64 j) : Val P n w0 mods E L ⟨dst, .binOp .sub t x y ty, T, pos, after, g⟩ (U64 (i - j)) := fun a w hf hi => by
  subst hu; subst hv
  rw [val_sub hx hy a w hf hi]
  have h1 := i.isLt; have h2 := j.isLt
  simp only [U64, wrap_u64, BitVec.toNat_sub]; congr 3
  omega
theorem val_mul64 {u v : Value} {i j : BitVec 64} (hx : Env.ev E x = some u) (hy : Env.ev E y = some v) (hu : u = U64 i) (hv : v = U64 j) : Val P n w0 mods E L ⟨dst, .binOp .mul t x y ty, T, pos, after, g⟩ (U64 (i * j)) := fun a w hf hi => by
  subst hu; subst hv
  rw [val_mul hx hy a w hf hi]
  simp only [U64, wrap_u64, BitVec.toNat_mul]; congr 3
theorem val_xor64 {u v : Value} {i j : BitVec 64} (hx : Env.ev E x = some u) (hy : Env.ev E y = some v) (hu : u = U64 i) (hv : v = U64 j) : Val P n w0 mods E L ⟨dst, .binOp .xor t x y ty, T, pos, after, g⟩ (U64 (i ^^^ j)) := fun a w hf hi => by
  subst hu; subst hv
  simp [execOp, hf.eval hx, hf.eval hy, eqGuard_int, binOp, xor64]
theorem val_or64 {u v : Value} {i j : BitVec 64} (hx : Env.ev E x = some u) (hy : Env.ev E y = some v) (hu : u = U64 i) (hv : v = U64 j) : Val P n w0 mods E L ⟨dst, .binOp .or t x y ty, T, pos, after, g⟩ (U64 (i ||| j)) := fun a w hf hi => by
  subst hu; subst hv
  simp [execOp, hf.eval hx, hf.eval hy, eqGuard_int, binOp, or64]
theorem val_and64 {u v : Value} {i j : BitVec 64} (hx : Env.ev E x = some u) (hy : Env.ev E y = some v) (hu : u = U64 i) (hv : v = U64 j) : Val P n w0 mods E L ⟨dst, .binOp .and t x y ty, T, pos, after, g⟩ (U64 (i &&& j)) := fun a w hf hi => by
  subst hu; subst hv
  simp [execOp, hf.eval hx, hf.eval hy, eqGuard_int, binOp, and64]
theorem val_shl64 {u : Value} {i : BitVec 64} {q : IntKind} {m : Int} {s : Nat} (hx : Env.ev E x = some u) (hy : Env.ev E y = some (.int q m)) (hu : u = U64 i) (hm : m = (s : Int)) : Val P n w0 mods E L ⟨dst, .binOp .shl t x y ty, T, pos, after, g⟩ (U64 (i <<< s)) := fun a w hf hi => by
  subst hu; subst hm
  simp [execOp, hf.eval hx, hf.eval hy, eqGuard_int, binOp, shl64]
theorem val_shr64 {u : Value} {i : BitVec 64} {q : IntKind} {m : Int} {s : Nat} (hx : Env.ev E x = some u) (hy : Env.ev E y = some (.int q m)) (hu : u = U64 i) (hm : m = (s : Int)) : Val P n w0 mods E L ⟨dst, .binOp .shr t x y ty, T, pos, after, g⟩ (U64 (i >>> s)) := fun a w hf hi => by
  subst hu; subst hm
  simp [execOp, hf.eval hx, hf.eval hy, eqGuard_int, binOp, shr64]
theorem val_quo64 {u v : Value} {i j : BitVec 64} (hx : Env.ev E x = some u) (hy : Env.ev E y = some v) (hu : u = U64 i) (hv : v = U64 j) (h : j ≠ 0) : Val P n w0 mods E L ⟨dst, .binOp .quo t x y ty, T, pos, after, g⟩ (U64 (i / j)) := fun a w hf hi => by
  subst hu; subst hv
  simp [execOp, hf.eval hx, hf.eval hy, eqGuard_int, binOp, quo64 i j h]
theorem val_rem64 {u v : Value} {i j : BitVec 64} (hx : Env.ev E x = some u) (hy : Env.ev E y = some v) (hu : u = U64 i) (hv : v = U64 j) (h : j ≠ 0) : Val P n w0 mods E L ⟨dst, .binOp .rem t x y ty, T, pos, after, g⟩ (U64 (i % j)) := fun a w hf hi => by
  subst hu; subst hv
  simp [execOp, hf.eval hx, hf.eval hy, eqGuard_int, binOp, rem64 i j h]
theorem val_eq64 {u v : Value} {i j : BitVec 64} (hx : Env.ev E x = some u) (hy : Env.ev E y = some v) (hu : u = U64 i) (hv : v = U64 j) : Val P n w0 mods E L ⟨dst, .binOp .eql t x y ty, T, pos, after, g⟩ (.bool (decide (i = j))) := fun a w hf hi => by
  subst hu; subst hv
  rw [val_eql hx hy a w hf hi]
  have : decide ((i.toNat : Int) = (j.toNat : Int)) = decide (i = j) := by
    rw [decide_eq_decide]
    exact ⟨fun h => BitVec.eq_of_toNat_eq (by omega), fun h => by rw [h]⟩
  rw [this]
theorem val_ne64 {u v : Value} {i j : BitVec 64} (hx : Env.ev E x = some u) (hy : Env.ev E y = some v) (hu : u = U64 i) (hv : v = U64 j) : Val P n w0 mods E L ⟨dst, .binOp .neq t x y ty, T, pos, after, g⟩ (.bool (decide (¬ i = j))) := fun a w hf hi => by
  subst hu; subst hv
  rw [val_neq hx hy a w hf hi]
  have : decide (¬ (i.toNat : Int) = (j.toNat : Int)) = decide (¬ i = j) := by
    rw [decide_eq_decide]
    exact ⟨fun h h' => h (by rw [h']), fun h h' => h (BitVec.eq_of_toNat_eq (by omega))⟩
  rw [this]
theorem val_neg64 {u : Value} {i : BitVec 64} (hx : Env.ev E x = some u) (hu : u = U64 i) : Val P n w0 mods E L ⟨dst, .unOp .neg t x, T, pos, after, g⟩ (U64 (-i)) := fun a w hf hi => by
  subst hu
  have h1 := i.isLt
  simp [execOp, hf.eval hx, Op.unary, Op.intArith, U64, wrap_u64]
  omega

/-! conversions -/
theorem val_conv {q q' : IntKind} {i : Int} {s d : TypeId} (hx : Env.ev E x = some (.int q i)) (hs : (P.underlying s).isSome = true) (hd : P.underlying d = some (.int q')) :
    Val P n w0 mods E L ⟨dst, .convert s d x, T, pos, after, g⟩ (.int q' (q'.wrap i)) := fun a w hf hi => by
  obtain ⟨ds, hs'⟩ := Option.isSome_iff_exists.mp hs
  simp [execOp, hf.eval hx, convert, run_underlying hs', run_underlying hd, Conv.intToInt]
theorem val_convI {q : IntKind} {i : Int} {s d : TypeId} (hx : Env.ev E x = some (.int q i)) (hs : (P.underlying s).isSome = true) (hd : P.underlying d = some (.int .i64)) (h : -9223372036854775808 ≤ i ∧ i ≤ 9223372036854775807) :
    Val P n w0 mods E L ⟨dst, .convert s d x, T, pos, after, g⟩ (I64 i) := fun a w hf hi => by
  rw [val_conv hx hs hd a w hf hi, wrap_i64 h.1 h.2]
theorem val_conv64 {q : IntKind} {i : Int} {s d : TypeId} (hx : Env.ev E x = some (.int q i)) (hs : (P.underlying s).isSome = true) (hd : P.underlying d = some (.int .u64)) :
    Val P n w0 mods E L ⟨dst, .convert s d x, T, pos, after, g⟩ (U64 (BitVec.ofInt 64 i)) := fun a w hf hi => by
  rw [val_conv hx hs hd a w hf hi, wrap64_eq]
theorem val_conv8_64 {u : Value} {b : UInt8} {s d : TypeId} (hx : Env.ev E x = some u) (hs : (P.underlying s).isSome = true) (hd : P.underlying d = some (.int .u64)) (hu : u = U8 b) :
    Val P n w0 mods E L ⟨dst, .convert s d x, T, pos, after, g⟩ (U64 (b.toBitVec.setWidth 64)) := fun a w hf hi => by
  subst hu
  rw [val_conv hx hs hd a w hf hi, wrap_u64]
  congr 3
  have : b.toNat < 256 := b.toNat_lt
  simp
  omega
theorem val_conv64_8 {u : Value} {i : BitVec 64} {s d : TypeId} (hx : Env.ev E x = some u) (hs : (P.underlying s).isSome = true) (hd : P.underlying d = some (.int .u8)) (hu : u = U64 i) :
    Val P n w0 mods E L ⟨dst, .convert s d x, T, pos, after, g⟩ (U8 ⟨i.setWidth 8⟩) := fun a w hf hi => by
  subst hu
  rw [val_conv hx hs hd a w hf hi, wrap_u8]
  congr 3
end
end Go.Eng
