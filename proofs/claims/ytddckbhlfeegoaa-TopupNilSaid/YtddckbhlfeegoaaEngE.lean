/-
  Engine, part E: comparisons of digests, of pointers with nil, and small operations.
-/
import Derived.Test.YtddckbhlfeegoaaEngD
import Derived.Laws.Strings
namespace Go.Eng
open Go
set_option linter.unusedVariables false
set_option linter.unusedSimpArgs false

theorem bt_bit (x : BitVec 64) (k m : Nat) (hm : m < 8) : (bt x k).toBitVec.getLsbD m = x.getLsbD (8 * k + m) := by
  unfold bt
  simp [BitVec.getLsbD_setWidth, BitVec.getLsbD_ushiftRight, hm]
theorem dig_ext {i j : BitVec 64} (h : ∀ k, k < 8 → bt i k = bt j k) : i = j := by
  apply BitVec.eq_of_getLsbD_eq
  intro m hm
  have h1 := bt_bit i (m / 8) (m % 8) (by omega)
  have h2 := bt_bit j (m / 8) (m % 8) (by omega)
  rw [h (m / 8) (by omega), h2] at h1
  rw [show m = 8 * (m / 8) + m % 8 by omega]
  exact h1.symm
theorem dig_iff (i j : BitVec 64) : i = j ↔ bt i 0 = bt j 0 ∧ bt i 1 = bt j 1 ∧ bt i 2 = bt j 2 ∧ bt i 3 = bt j 3 ∧ bt i 4 = bt j 4 ∧ bt i 5 = bt j 5 ∧ bt i 6 = bt j 6 ∧ bt i 7 = bt j 7 := by
  constructor
  · rintro rfl; simp
  · rintro ⟨h0, h1, h2, h3, h4, h5, h6, h7⟩
    refine dig_ext fun k hk => ?_
    rcases k with _ | _ | _ | _ | _ | _ | _ | _ | k <;> first | assumption | omega

def isDig (P : Program) (t : TypeId) : Bool :=
  match P.underlying t with
  | some (.array 8 e) => match P.underlying e, P.info? e with
    | some (.int .u8), some i => i.size == 1
    | _, _ => false
  | _ => false
structure DigT (P : Program) (t : TypeId) : Prop where
  guard : P.eqGuardType P.depth t = false
  is : isDig P t = true

theorem DigT.spec {P : Program} {t : TypeId} (h : DigT P t) : ∃ e i, P.underlying t = some (.array 8 e) ∧ P.underlying e = some (.int .u8) ∧ P.info? e = some i ∧ i.size = 1 := by
  have := h.is
  unfold isDig at this
  split at this
  · rename_i e hu
    split at this
    · rename_i i hu2 hi
      exact ⟨e, i, hu, hu2, hi, by simpa using this⟩
    · cases this
  · cases this

theorem run_equal_dig {P : Program} {t : TypeId} (h : DigT P t) (i j : BitVec 64) (w : World) : (Op.equal t (Dig i) (Dig j)).run P w = .ok (decide (i = j)) w := by
  obtain ⟨e, inf, hu, he, hi, hs⟩ := h.spec
  have hp : ∀ (cs : List Value) (m : Nat) (b : UInt8), cs[m]? = some (U8 b) → (part e cs.toArray m).run P w = .ok (U8 b) w := fun cs m b hb => by
    simp [part, isAgg, run_underlying he, hb]
  have heq : ∀ (d : Nat) (a b : UInt8), (Op.equalIn (d + 1) e (U8 a) (U8 b)).run P w = .ok (decide (a = b)) w := fun d a b => by
    simp [Op.equalIn, run_underlying he]
    by_cases hab : a = b
    · subst hab; simp
    · have : (a.toNat : Int) ≠ (b.toNat : Int) := fun h => hab (UInt8.toNat_inj.1 (by omega))
      simp [hab, this]
  have h0 : ∀ x : BitVec 64, ∀ m, m < 8 → (part e (digL x).toArray m).run P w = .ok (U8 (bt x m)) w := fun x m hm => hp _ _ _ (by
    rcases m with _ | _ | _ | _ | _ | _ | _ | _ | m <;> first | rfl | omega)
  unfold Op.equal Op.maxDepth
  rw [show (10000 : Nat) = (9998 + 1) + 1 from rfl]
  unfold Op.equalIn
  simp only [Sem.run_bind, run_underlying hu, Result.andThen_ok, sizeOf, typeInfo, run_program, hi, Sem.run_pure, hs, Nat.mul_one]
  rw [show ([:8] : Std.Legacy.Range) = [0:8] from rfl]
  simp only [Std.Legacy.Range.forIn_eq_forIn_range', Std.Legacy.Range.size, Nat.sub_zero, Nat.add_one_sub_one, Nat.div_one, List.range', List.forIn_cons, List.forIn_nil]
  simp [Sem.run_bind, h0, heq]
  by_cases e0 : bt i 0 = bt j 0 <;> simp [e0, dig_iff i j]
  by_cases e1 : bt i 1 = bt j 1 <;> simp [e1]
  by_cases e2 : bt i 2 = bt j 2 <;> simp [e2]
  by_cases e3 : bt i 3 = bt j 3 <;> simp [e3]
  by_cases e4 : bt i 4 = bt j 4 <;> simp [e4]
  by_cases e5 : bt i 5 = bt j 5 <;> simp [e5]
  by_cases e6 : bt i 6 = bt j 6 <;> simp [e6]
  by_cases e7 : bt i 7 = bt j 7 <;> simp [e7]

section
variable {P : Program} {n : Nat} {w0 : World} {mods : List Nat} {k : Kont} {E : Env} {L : List Ent}
variable {dst : Option Tmp} {T t ty : TypeId} {pos : String} {after : Array Edge} {g : Option (Nat × Bool)} {x y z : Operand} {op : BinOp}

theorem run_eqGuard_agg {op : BinOp} {t : TypeId} {x y : Operand} {xs ys : Array Value} (h : P.eqGuardType P.depth t = false) (w : World) : (eqGuard op t x y (.agg xs) (.agg ys)).run P w = .ok () w := by
  cases op <;> simp [eqGuard, h]
theorem val_eqlDig {u v : Value} {i j : BitVec 64} (hk : DigT P t) (hx : Env.ev E x = some u) (hy : Env.ev E y = some v) (hu : u = Dig i) (hv : v = Dig j) : Val P n w0 mods E L ⟨dst, .binOp .eql t x y ty, T, pos, after, g⟩ (.bool (decide (i = j))) := fun a w hf hi => by
  subst hu; subst hv
  have := run_equal_dig hk i j w
  simp [execOp, hf.eval hx, hf.eval hy, run_eqGuard_agg hk.guard, binOp, this]
theorem val_neqDig {u v : Value} {i j : BitVec 64} (hk : DigT P t) (hx : Env.ev E x = some u) (hy : Env.ev E y = some v) (hu : u = Dig i) (hv : v = Dig j) : Val P n w0 mods E L ⟨dst, .binOp .neq t x y ty, T, pos, after, g⟩ (.bool (decide (¬ i = j))) := fun a w hf hi => by
  subst hu; subst hv
  have := run_equal_dig hk i j w
  simp [execOp, hf.eval hx, hf.eval hy, run_eqGuard_agg hk.guard, binOp, this]
theorem run_equal_bool (hk : P.underlying t = some .bool) (p q : Bool) (w : World) : (Op.equal t (.bool p) (.bool q)).run P w = .ok (p == q) w := by
  unfold Op.equal Op.maxDepth
  rw [show (10000 : Nat) = 9999 + 1 from rfl]
  unfold Op.equalIn
  simp [run_underlying hk]
theorem val_eqlB {p q : Bool} (hk : P.underlying t = some .bool) (hx : Env.ev E x = some (.bool p)) (hy : Env.ev E y = some (.bool q)) : Val P n w0 mods E L ⟨dst, .binOp .eql t x y ty, T, pos, after, g⟩ (.bool (p == q)) := fun a w hf hi => by
  have := run_equal_bool hk p q w
  simp [execOp, hf.eval hx, hf.eval hy, eqGuard, binOp, this]
theorem val_neqB {p q : Bool} (hk : P.underlying t = some .bool) (hx : Env.ev E x = some (.bool p)) (hy : Env.ev E y = some (.bool q)) : Val P n w0 mods E L ⟨dst, .binOp .neq t x y ty, T, pos, after, g⟩ (.bool (p != q)) := fun a w hf hi => by
  have := run_equal_bool hk p q w
  simp [execOp, hf.eval hx, hf.eval hy, eqGuard, binOp, this]
  cases p <;> cases q <;> rfl
theorem run_equal_nil {e : TypeId} (hk : P.underlying t = some (.pointer e)) (p : Option Addr) (w : World) : (Op.equal t (.pointer p) (.pointer none)).run P w = .ok p.isNone w ∧ (Op.equal t (.pointer none) (.pointer p)).run P w = .ok p.isNone w := by
  unfold Op.equal Op.maxDepth
  rw [show (10000 : Nat) = 9999 + 1 from rfl]
  unfold Op.equalIn
  cases p <;> simp [run_underlying hk]
theorem val_eqlNil {e : TypeId} {p : Option Addr} (hk : P.underlying t = some (.pointer e)) (hx : Env.ev E x = some (.pointer p)) (hy : Env.ev E y = some (.pointer none)) : Val P n w0 mods E L ⟨dst, .binOp .eql t x y ty, T, pos, after, g⟩ (.bool p.isNone) := fun a w hf hi => by
  have := (run_equal_nil hk p w).1
  simp [execOp, hf.eval hx, hf.eval hy, eqGuard, binOp, this]
theorem val_neqNil {e : TypeId} {p : Option Addr} (hk : P.underlying t = some (.pointer e)) (hx : Env.ev E x = some (.pointer p)) (hy : Env.ev E y = some (.pointer none)) : Val P n w0 mods E L ⟨dst, .binOp .neq t x y ty, T, pos, after, g⟩ (.bool p.isSome) := fun a w hf hi => by
  have := (run_equal_nil hk p w).1
  simp [execOp, hf.eval hx, hf.eval hy, eqGuard, binOp, this]
theorem val_eqlNil' {e : TypeId} {p : Option Addr} (hk : P.underlying t = some (.pointer e)) (hx : Env.ev E x = some (.pointer none)) (hy : Env.ev E y = some (.pointer p)) : Val P n w0 mods E L ⟨dst, .binOp .eql t x y ty, T, pos, after, g⟩ (.bool p.isNone) := fun a w hf hi => by
  have := (run_equal_nil hk p w).2
  simp [execOp, hf.eval hx, hf.eval hy, eqGuard, binOp, this]
theorem val_eqlS {s u : ByteArray} (hx : Env.ev E x = some (.string s)) (hy : Env.ev E y = some (.string u)) : Val P n w0 mods E L ⟨dst, .binOp .eql t x y ty, T, pos, after, g⟩ (.bool (decide (s = u))) := fun a w hf hi => by
  have : (s.toList == u.toList) = decide (s = u) := by
    rw [Bool.eq_iff_iff]; simp
    constructor
    · intro h
      have : s.data = u.data := by
        apply Array.ext'
        simpa [ByteArray.toList_eq] using h
      exact ByteArray.ext this
    · intro h; rw [h]
  simp [execOp, hf.eval hx, hf.eval hy, eqGuard, binOp, Op.stringOp, this]
theorem val_conv64_64 {u : Value} {i : BitVec 64} {s d : TypeId} (hx : Env.ev E x = some u) (hs : (P.underlying s).isSome = true) (hd : P.underlying d = some (.int .u64)) (hu : u = U64 i) :
    Val P n w0 mods E L ⟨dst, .convert s d x, T, pos, after, g⟩ (U64 i) := fun a w hf hi => by
  subst hu
  rw [val_conv hx hs hd a w hf hi, wrap_toNat]
theorem val_addC {i j r : Int} (hx : Env.ev E x = some (I64 i)) (hy : Env.ev E y = some (I64 j)) (h : i + j = r ∧ -9223372036854775808 ≤ r ∧ r ≤ 9223372036854775807) : Val P n w0 mods E L ⟨dst, .binOp .add t x y ty, T, pos, after, g⟩ (I64 r) := by
  have := val_addI (P := P) (n := n) (w0 := w0) (mods := mods) (L := L) (dst := dst) (T := T) (t := t) (ty := ty) (pos := pos) (after := after) (g := g) hx hy (by omega)
  rwa [h.1] at this
theorem val_subC {i j r : Int} (hx : Env.ev E x = some (I64 i)) (hy : Env.ev E y = some (I64 j)) (h : i - j = r ∧ -9223372036854775808 ≤ r ∧ r ≤ 9223372036854775807) : Val P n w0 mods E L ⟨dst, .binOp .sub t x y ty, T, pos, after, g⟩ (I64 r) := by
  have := val_subI (P := P) (n := n) (w0 := w0) (mods := mods) (L := L) (dst := dst) (T := T) (t := t) (ty := ty) (pos := pos) (after := after) (g := g) hx hy (by omega)
  rwa [h.1] at this
theorem val_mulC {i j r : Int} (hx : Env.ev E x = some (I64 i)) (hy : Env.ev E y = some (I64 j)) (h : i * j = r ∧ -9223372036854775808 ≤ r ∧ r ≤ 9223372036854775807) : Val P n w0 mods E L ⟨dst, .binOp .mul t x y ty, T, pos, after, g⟩ (I64 r) := by
  have := val_mulI (P := P) (n := n) (w0 := w0) (mods := mods) (L := L) (dst := dst) (T := T) (t := t) (ty := ty) (pos := pos) (after := after) (g := g) hx hy (by omega)
  rwa [h.1] at this
theorem val_yes {o : Oper} {p : Prop} [Decidable p] (h : Val P n w0 mods E L o (.bool (decide p))) (hp : p) : Val P n w0 mods E L o (.bool true) := by
  rwa [decide_eq_true hp] at h
theorem val_no {o : Oper} {p : Prop} [Decidable p] (h : Val P n w0 mods E L o (.bool (decide p))) (hp : ¬ p) : Val P n w0 mods E L o (.bool false) := by
  rwa [decide_eq_false hp] at h
theorem val_cast {o : Oper} {u v : Value} (h : Val P n w0 mods E L o u) (e : u = v) : Val P n w0 mods E L o v := e ▸ h
theorem val_min2 {q q' : IntKind} {i j : Int} {ts : Array TypeId} (hx : Env.ev E x = some (.int q i)) (hy : Env.ev E y = some (.int q' j)) :
    Val P n w0 mods E L ⟨dst, .call ⟨.builtin .min, #[x, y], ts⟩, T, pos, after, g⟩ (.int q (if j < i then j else i)) := fun _ w hf _ => by
  simp [execOp, resolve, invoke, builtin, Builtin.min_, Builtin.min2, hf.eval hx, hf.eval hy]
theorem val_max2 {q q' : IntKind} {i j : Int} {ts : Array TypeId} (hx : Env.ev E x = some (.int q i)) (hy : Env.ev E y = some (.int q' j)) :
    Val P n w0 mods E L ⟨dst, .call ⟨.builtin .max, #[x, y], ts⟩, T, pos, after, g⟩ (.int q (if i < j then j else i)) := fun _ w hf _ => by
  simp [execOp, resolve, invoke, builtin, Builtin.max_, Builtin.max2, hf.eval hx, hf.eval hy]
/-- An array with nothing filled in. -/
theorem val_buildZ {z : Value} {cs : List Value} {p : Nat × Nat} (hz : zeroOf P t = some z) (hc : z.cells = cs.toArray) (hk : arrOf P t = some p) : Val P n w0 mods E L ⟨dst, .build t #[], T, pos, after, g⟩ (.agg cs.toArray) := fun _ w hf _ => by
  obtain ⟨i, hi, hz'⟩ := zeroOf_spec hz
  obtain ⟨len, size⟩ := p
  obtain ⟨e, hu, i2, hi2, hs⟩ := arrOf_spec hk
  simp [execOp, Instr.build, zeroValue, typeInfo, hi, hz', run_underlying hu, sizeOf, hi2, hs, Instr.fill, hc]
/-! literals with parts -/
/-- Where the fields of a struct lie. -/
def placesOf (P : Program) (t : TypeId) : Option (List (Nat × Nat)) :=
  match P.underlying t with
  | some (.struct fs) => fs.toList.mapM fun f => (P.info? f.type).map fun i => (f.offset, i.size)
  | _ => none
inductive Fill (place : Nat → Option (Nat × Nat)) : List Value → List (Nat × Value) → List Value → Prop
  | nil {zs : List Value} : Fill place zs [] zs
  | cons {i off m : Nat} {v : Value} {us zs zs' cs : List Value} {ps : List (Nat × Value)} : place i = some (off, m) → v.cells = us.toArray → us.length = m → off + m ≤ zs.length → splice zs off us = zs' → Fill place zs' ps cs → Fill place zs ((i, v) :: ps) cs
theorem foldl_splice (off : Nat) : ∀ (us zs : List Value) (j : Nat), off + j + us.length ≤ zs.length →
    (us.zipIdx j).foldl (fun (cs : Array Value) (p : Value × Nat) => cs.setIfInBounds (off + p.2) p.1) zs.toArray = (zs.take (off + j) ++ us ++ zs.drop (off + j + us.length)).toArray
  | [], zs, j, _ => by simp
  | u :: us, zs, j, h => by
    simp only [List.length_cons] at h
    have ih := foldl_splice off us (zs.set (off + j) u) (j + 1) (by simp; omega)
    simp only [List.zipIdx_cons, List.foldl_cons, List.setIfInBounds_toArray, List.length_cons]
    rw [ih]
    have h2 : off + (j + 1) = off + j + 1 := by omega
    have h3 : off + j + 1 + us.length = off + j + (us.length + 1) := by omega
    rw [h2, h3]
    have h4 : (zs.set (off + j) u).take (off + j + 1) = zs.take (off + j) ++ [u] := by
      rw [List.set_eq_take_append_cons_drop, if_pos (by omega), List.take_append]
      simp [Nat.min_eq_left (by omega : off + j ≤ zs.length)]
      rw [List.take_take, Nat.min_eq_right (by omega)]
    have h5 : (zs.set (off + j) u).drop (off + j + (us.length + 1)) = zs.drop (off + j + (us.length + 1)) := by
      rw [List.drop_set_of_lt (by omega)]
    rw [h4, h5]
    simp
theorem Fill.run {place : Nat → Option (Nat × Nat)} {zs cs : List Value} {ps : List (Nat × Value)} (h : Fill place zs ps cs) : Instr.fill place zs.toArray ps = some cs.toArray := by
  induction h with
  | nil => rfl
  | @cons i off m v us zs zs' cs ps hp hv hm hl hs _ ih =>
    subst hm; subst hs
    unfold Instr.fill
    rw [hp]
    simp only [hv]
    rw [if_neg (by simp; omega)]
    rw [← ih]
    congr 1
    have := foldl_splice off us zs 0 (by simpa using hl)
    simp only [Nat.add_zero] at this
    unfold splice
    rw [← this]
    simp
inductive EvParts (E : Env) : List (Nat × Operand) → List (Nat × Value) → Prop
  | nil : EvParts E [] []
  | cons {i : Nat} {x : Operand} {v : Value} {xs : List (Nat × Operand)} {vs : List (Nat × Value)} : Env.ev E x = some v → EvParts E xs vs → EvParts E ((i, x) :: xs) ((i, v) :: vs)
theorem EvParts.map {xs : List (Nat × Operand)} {vs : List (Nat × Value)} (h : EvParts E xs vs) {a : Act} (hf : Fits n E a) : xs.map (fun p => (p.1, a.eval p.2)) = vs := by
  induction h with
  | nil => rfl
  | cons h _ ih => simp [hf.eval h, ih]
theorem val_buildArr {z : Value} {len size : Nat} {xs : List (Nat × Operand)} {vs : List (Nat × Value)} {zs cs : List Value} (hz : zeroOf P t = some z) (hk : arrOf P t = some (len, size)) (hx : EvParts E xs vs) (hc : z.cells = zs.toArray)
    (hfill : Fill (fun i => some (i * size, size)) zs vs cs) : Val P n w0 mods E L ⟨dst, .build t xs.toArray, T, pos, after, g⟩ (.agg cs.toArray) := fun _ w hf _ => by
  obtain ⟨i, hi, hz'⟩ := zeroOf_spec hz
  obtain ⟨e, hu, i2, hi2, hs⟩ := arrOf_spec hk
  have := hx.map hf
  simp [execOp, Instr.build, zeroValue, typeInfo, hi, hz', run_underlying hu, sizeOf, hi2, hs, this, hc, hfill.run]
theorem run_places {P : Program} (w : World) : ∀ (fs : List Field) (ps : List (Nat × Nat)), (fs.mapM fun f => (P.info? f.type).map fun i => (f.offset, i.size)) = some ps →
    (fs.mapM fun f => (do pure (f.offset, ← sizeOf f.type) : Sem (Nat × Nat))).run P w = .ok ps w
  | [], ps, h => by simp at h; subst h; rfl
  | f :: fs, ps, h => by
    simp only [List.mapM_cons, Option.bind_eq_bind, Option.bind_eq_some_iff, Option.map_eq_some_iff] at h
    obtain ⟨p, ⟨i, hi, rfl⟩, qs, hq, h⟩ := h
    cases h
    have h2 := run_places w fs qs hq
    have h1 : (do pure (f.offset, ← sizeOf f.type) : Sem (Nat × Nat)).run P w = .ok (f.offset, i.size) w := by simp [sizeOf, typeInfo, hi]
    rw [List.mapM_cons, Sem.run_bind, h1]
    simp only [Result.andThen_ok]
    rw [Sem.run_bind, h2]
    rfl
theorem val_buildStr {z : Value} {ps : List (Nat × Nat)} {xs : List (Nat × Operand)} {vs : List (Nat × Value)} {zs cs : List Value} (hz : zeroOf P t = some z) (hk : placesOf P t = some ps) (hx : EvParts E xs vs) (hc : z.cells = zs.toArray)
    (hfill : Fill (fun i => ps[i]?) zs vs cs) : Val P n w0 mods E L ⟨dst, .build t xs.toArray, T, pos, after, g⟩ (.agg cs.toArray) := fun _ w hf _ => by
  obtain ⟨i, hi, hz'⟩ := zeroOf_spec hz
  have hx' := hx.map hf
  unfold placesOf at hk
  split at hk
  · rename_i fs hu
    have hp := run_places w fs.toList ps hk
    have hp2 : (fs.mapM fun f => (do pure (f.offset, ← sizeOf f.type) : Sem (Nat × Nat))).run P w = .ok ps.toArray w := by
      have e : fs = fs.toList.toArray := by simp
      rw [e, List.mapM_toArray, Sem.run_map, hp]; rfl
    simp only [execOp, Instr.build, zeroValue, typeInfo, Sem.run_bind, run_program, Result.andThen_ok, hi, hz', Sem.run_pure, run_underlying hu, hp2]
    simp [hx', hc, hfill.run]
  · cases hk
end
end Go.Eng
