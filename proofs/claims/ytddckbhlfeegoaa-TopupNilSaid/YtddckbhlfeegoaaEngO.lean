/-
  Engine, part O: chains of chapter 18: their cells, when two are the same, what is shown and answered.
-/
import Derived.Test.YtddckbhlfeegoaaEngK
import Derived.Test.YtddckbhlfeegoaaEngL
namespace Go.Eng
open Go
set_option linter.unusedVariables false
set_option linter.unusedSimpArgs false
/-- A chain's cells. -/
@[reducible] def chL (s : BitVec 64) (r a : Nat) : List Value := [U8 (bt s 0), U8 (bt s 1), U8 (bt s 2), U8 (bt s 3), U8 (bt s 4), U8 (bt s 5), U8 (bt s 6), U8 (bt s 7), NV r, NV a]
@[reducible] def chV (s : BitVec 64) (r a : Nat) : Value := .agg (chL s r a).toArray
theorem run_equalIn_dig {P : Program} {t : TypeId} (h : isDig P t = true) (d : Nat) (i j : BitVec 64) (w : World) : (Op.equalIn (d + 2) t (Dig i) (Dig j)).run P w = .ok (decide (i = j)) w := by
  obtain ⟨e, inf, hu, he, hi, hs⟩ : ∃ e i, P.underlying t = some (.array 8 e) ∧ P.underlying e = some (.int .u8) ∧ P.info? e = some i ∧ i.size = 1 := by
    have := h
    unfold isDig at this
    split at this
    · rename_i e hu
      split at this
      · rename_i i hu2 hi
        exact ⟨e, i, hu, hu2, hi, by simpa using this⟩
      · cases this
    · cases this
  have hp : ∀ (cs : List Value) (m : Nat) (b : UInt8), cs[m]? = some (U8 b) → (part e cs.toArray m).run P w = .ok (U8 b) w := fun cs m b hb => by
    simp [part, isAgg, run_underlying he, hb]
  have heq : ∀ (d : Nat) (a b : UInt8), (Op.equalIn (d + 1) e (U8 a) (U8 b)).run P w = .ok (decide (a = b)) w := fun d a b => by
    simp [Op.equalIn, run_underlying he]
    by_cases hab : a = b
    · subst hab; simp
    · have : (a.toNat : Int) ≠ (b.toNat : Int) := fun h => hab (UInt8.toNat_inj.1 (by omega))
      simp [hab, this]
  have h0 : ∀ x : BitVec 64, ∀ m, m < 8 → (part e (digL x).toArray m).run P w = .ok (U8 (bt x m)) w := fun x m hm => hp _ _ _ (by
    rcases m with _ | _ | _ | _ | _ | _ | _ | _ | m <;> first | rfl | omega)
  rw [show d + 2 = (d + 1) + 1 from rfl]
  unfold Op.equalIn
  simp only [Sem.run_bind, run_underlying hu, Result.andThen_ok, sizeOf, typeInfo, run_program, hi, Sem.run_pure, hs, Nat.mul_one]
  rw [show ([:8] : Std.Legacy.Range) = [0:8] from rfl]
  simp only [Std.Legacy.Range.forIn_eq_forIn_range', Std.Legacy.Range.size, Nat.sub_zero, Nat.add_one_sub_one, Nat.div_one, List.range', List.forIn_cons, List.forIn_nil]
  simp [Sem.run_bind, h0, heq]
  by_cases e0 : bt i 0 = bt j 0 <;> simp [e0, dig_iff i j]
  by_cases e1 : bt i 1 = bt j 1 <;> simp [e1]
  by_cases e2 : bt i 2 = bt j 2 <;> simp [e2]
  by_cases e3 : bt i 3 = bt j 3 <;> simp [e3]
  by_cases e4 : bt i 4 = bt j 4 <;> simp [e4]
  by_cases e5 : bt i 5 = bt j 5 <;> simp [e5]
  by_cases e6 : bt i 6 = bt j 6 <;> simp [e6]
  by_cases e7 : bt i 7 = bt j 7 <;> simp [e7]
def isI64 (P : Program) (t : TypeId) : Bool := match P.underlying t with | some (.int .i64) => true | _ => false
def isCh (P : Program) (t : TypeId) : Bool :=
  match P.underlying t with
  | some (.struct fs) => match fs.toList with
    | [f0, f1, f2] => f0.name != "_" && f1.name != "_" && f2.name != "_" && f0.offset == 0 && f1.offset == 8 && f2.offset == 9 && isDig P f0.type && isI64 P f1.type && isI64 P f2.type && (match P.info? f0.type with | some i => i.size == 8 | none => false)
    | _ => false
  | _ => false
structure ChT (P : Program) (t : TypeId) : Prop where
  guard : P.eqGuardType P.depth t = false
  is : isCh P t = true
  out : P.stoodInHeld t = false
theorem isI64_spec {P : Program} {t : TypeId} (h : isI64 P t = true) : P.underlying t = some (.int .i64) := by
  unfold isI64 at h
  split at h
  · assumption
  · cases h
theorem isDig_under {P : Program} {t : TypeId} (h : isDig P t = true) : ∃ e, P.underlying t = some (.array 8 e) := by
  unfold isDig at h
  split at h
  · rename_i e hu; exact ⟨e, hu⟩
  · cases h
theorem run_equal_ch {P : Program} {t : TypeId} (h : ChT P t) (s s' : BitVec 64) (r a r' a' : Nat) (w : World) : (Op.equal t (chV s r a) (chV s' r' a')).run P w = .ok (decide (s = s' ∧ r = r' ∧ a = a')) w := by
  have his := h.is
  unfold isCh at his
  split at his
  · rename_i fs hu
    split at his
    · rename_i f0 f1 f2 hfs
      simp only [Bool.and_eq_true, bne_iff_ne, ne_eq, beq_iff_eq] at his
      obtain ⟨⟨⟨⟨⟨⟨⟨⟨⟨n0, n1⟩, n2⟩, o0⟩, o1⟩, o2⟩, d0⟩, i1⟩, i2⟩, z0⟩ := his
      split at z0
      · rename_i inf hinf
        have z0 : inf.size = 8 := by simpa using z0
        have u1 := isI64_spec i1
        have u2 := isI64_spec i2
        obtain ⟨e, u0⟩ := isDig_under d0
        have hfa : fs = #[f0, f1, f2] := by apply Array.ext'; simpa using hfs
        subst hfa
        have p0 : ∀ s r a, (part f0.type (chL s r a).toArray 0).run P w = .ok (Dig s) w := fun s r a => by
          simp [part, isAgg, run_underlying u0, sizeOf, typeInfo, hinf, z0]
        have p1 : ∀ s r a, (part f1.type (chL s r a).toArray 8).run P w = .ok (NV r) w := fun s r a => by simp [part, isAgg, run_underlying u1]
        have p2 : ∀ s r a, (part f2.type (chL s r a).toArray 9).run P w = .ok (NV a) w := fun s r a => by simp [part, isAgg, run_underlying u2]
        have ei : ∀ (d : Nat) (u : TypeId) (p q : Nat), P.underlying u = some (.int .i64) → (Op.equalIn (d + 1) u (NV p) (NV q)).run P w = .ok (decide (p = q)) w := fun d u p q hu => by
          simp [Op.equalIn, run_underlying hu]
          by_cases e : p = q <;> simp [e]
          omega
        suffices H : ∀ d, (Op.equalIn (d + 3) t (chV s r a) (chV s' r' a')).run P w = .ok (decide (s = s' ∧ r = r' ∧ a = a')) w from H 9997
        intro d
        have e0 := run_equalIn_dig d0 d s s' w
        have e1 := ei (d + 1) f1.type r r' u1
        have e2 := ei (d + 1) f2.type a a' u2
        rw [show d + 3 = (d + 2) + 1 from rfl]
        unfold Op.equalIn
        simp only [Sem.run_bind, run_underlying hu, Result.andThen_ok, run_program, Sem.run_pure, h.out]
        simp [Sem.run_bind, n0, n1, n2, o0, o1, o2, p0, p1, p2, e0, e1, e2]
        by_cases c0 : s = s' <;> simp [c0]
        by_cases c1 : r = r' <;> simp [c1]
        by_cases c2 : a = a' <;> simp [c2]
      · cases z0
    · cases his
  · cases his
section
variable {P : Program} {n : Nat} {w0 : World} {mods : List Nat} {E : Env} {L : List Ent} {dst : Option Tmp} {T t ty : TypeId} {pos : String} {after : Array Edge} {g : Option (Nat × Bool)} {x y z : Operand}
theorem val_eqlCh {s s' : BitVec 64} {r a₀ r' a' : Nat} (hk : ChT P t) (hx : Env.ev E x = some (chV s r a₀)) (hy : Env.ev E y = some (chV s' r' a')) : Val P n w0 mods E L ⟨dst, .binOp .eql t x y ty, T, pos, after, g⟩ (.bool (decide (s = s' ∧ r = r' ∧ a₀ = a'))) := fun a w hf hi => by
  have := run_equal_ch hk s s' r a₀ r' a' w
  simp [execOp, hf.eval hx, hf.eval hy, run_eqGuard_agg hk.guard, binOp, this]
end
/-! ### what is shown, and answered -/
def shW (s : BitVec 64) (a : Nat) : BitVec 64 := if a = 0 then 0#64 else hChain s (a - 1)
def shE (a : Nat) : Int := if a = 0 then 17 else 0
def lastN (p : Nat → Bool) : Nat → Option Nat
  | 0 => none
  | k + 1 => if p k = true then some k else lastN p k
theorem lastN_hit (p : Nat → Bool) (k : Nat) (h : p k = true) : lastN p (k + 1) = some k := by simp [lastN, h]
theorem lastN_miss (p : Nat → Bool) (k : Nat) (h : p k = false) : lastN p (k + 1) = lastN p k := by simp [lastN, h]
def hitsP (s t : BitVec 64) (k : Nat) : Bool := decide (hChain s (k + 1) = t)
theorem hits_yes (s t : BitVec 64) (k : Nat) (h : hChain s (k + 1) = t) : hitsP s t k = true := by unfold hitsP; exact decide_eq_true h
theorem hits_no (s t : BitVec 64) (k : Nat) (h : ¬ hChain s (k + 1) = t) : hitsP s t k = false := by unfold hitsP; exact decide_eq_false h
def pickW (f : Nat → BitVec 64) : Option Nat → BitVec 64
  | some j => f j
  | none => 0#64
def pickE : Option Nat → Int
  | some _ => 0
  | none => 9
theorem pickW_some (f : Nat → BitVec 64) (k : Nat) : pickW f (some k) = f k := rfl
def ansW (s t : BitVec 64) (k : Nat) : BitVec 64 := pickW (hChain s) (lastN (hitsP s t) k)
def ansE (s t : BitVec 64) (k : Nat) : Int := pickE (lastN (hitsP s t) k)
theorem ans_hit (s t : BitVec 64) (k : Nat) (h : hChain s (k + 1) = t) : ansW s t (k + 1) = hChain s k ∧ ansE s t (k + 1) = 0 := by
  have e := lastN_hit (hitsP s t) k (hits_yes s t k h)
  exact ⟨(congrArg (pickW (hChain s)) e).trans (pickW_some _ k), congrArg pickE e⟩
theorem ans_miss (s t : BitVec 64) (k : Nat) (h : ¬ hChain s (k + 1) = t) : ansW s t (k + 1) = ansW s t k ∧ ansE s t (k + 1) = ansE s t k := by
  have e := lastN_miss (hitsP s t) k (hits_no s t k h)
  exact ⟨congrArg (pickW (hChain s)) e, congrArg pickE e⟩
theorem hChain_succ (s : BitVec 64) (k : Nat) : hChain s (k + 1) = hOne (hChain s k) := by rw [hChain]
theorem hChain_zero (s : BitVec 64) : hChain s 0 = s := by rw [hChain]
theorem ansW_zero (s t : BitVec 64) : ansW s t 0 = 0#64 := by unfold ansW; rw [show lastN (hitsP s t) 0 = none from rfl]; rfl
theorem ansE_zero (s t : BitVec 64) : ansE s t 0 = 9 := by unfold ansE; rw [show lastN (hitsP s t) 0 = none from rfl]; rfl
theorem ans_of (s t : BitVec 64) (k m : Nat) (hk : k < m) (h : hChain s (k + 1) = t) : ansE s t m = 0 ∧ hOne (ansW s t m) = t := by
  induction m with
  | zero => omega
  | succ m ih =>
    by_cases h2 : hChain s (m + 1) = t
    · obtain ⟨e1, e2⟩ := ans_hit s t m h2
      rw [e1, e2]; refine ⟨rfl, ?_⟩; rw [← h2, hChain_succ]
    · obtain ⟨e1, e2⟩ := ans_miss s t m h2
      rw [e1, e2]
      apply ih
      rcases Nat.lt_or_ge k m with h3 | h3
      · exact h3
      · obtain rfl : k = m := by omega
        exact absurd h h2
theorem chainI_nat (s : BitVec 64) (k : Nat) (h : k ≤ 4098) : hChainI s (k : Int) = hChain s k := hChainI_nat s k (by omega)
theorem shW_succ (s : BitVec 64) (j : Nat) : shW s (j + 1) = hChain s j := if_neg (Nat.succ_ne_zero j)
theorem same_dig (x o : BitVec 64) (p a : Nat) : (decide (x = o ∧ p = p ∧ a = a) != decide (x = o)) = false := by by_cases h : x = o <;> simp [h]
theorem same_left (x : BitVec 64) (p a b : Nat) : (decide (x = x ∧ p = p ∧ a = b) == decide ((a : Int) = (b : Int))) = true := by
  by_cases h : a = b
  · simp [h]
  · have : ¬ (a : Int) = (b : Int) := by omega
    simp [h, this]
end Go.Eng
