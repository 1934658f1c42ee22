/- Plain laws of chapter 5: digits of a message, chains of a key, what a signature shows. No condition but those stated. -/
import Derived.Test.YtddckbhlfeegoaaEngO
namespace Go.Eng
open Go
set_option linter.unusedVariables false
set_option linter.unusedSimpArgs false
def dlo (m : BitVec 64) (i : Nat) : Nat := (bt m i).toNat % 16
def dhi (m : BitVec 64) (i : Nat) : Nat := (bt m i).toNat / 16
theorem dlo_lt (m : BitVec 64) (i : Nat) : dlo m i < 16 := Nat.mod_lt _ (by decide)
theorem dhi_lt (m : BitVec 64) (i : Nat) : dhi m i < 16 := by
  have := (bt m i).toNat_lt
  unfold dhi; omega
def dsum (m : BitVec 64) : Nat := dlo m 0 + dhi m 0 + dlo m 1 + dhi m 1 + dlo m 2 + dhi m 2 + dlo m 3 + dhi m 3 + dlo m 4 + dhi m 4 + dlo m 5 + dhi m 5 + dlo m 6 + dhi m 6 + dlo m 7 + dhi m 7
theorem dsum_le (m : BitVec 64) : dsum m ≤ 240 := by
  have := dlo_lt m 0; have := dlo_lt m 1; have := dlo_lt m 2; have := dlo_lt m 3; have := dlo_lt m 4; have := dlo_lt m 5; have := dlo_lt m 6; have := dlo_lt m 7
  have := dhi_lt m 0; have := dhi_lt m 1; have := dhi_lt m 2; have := dhi_lt m 3; have := dhi_lt m 4; have := dhi_lt m 5; have := dhi_lt m 6; have := dhi_lt m 7
  unfold dsum; omega
def dchk (m : BitVec 64) : Nat := 240 - dsum m
/-- A message's digits. -/
def dg (m : BitVec 64) : List Nat := [dlo m 0, dhi m 0, dlo m 1, dhi m 1, dlo m 2, dhi m 2, dlo m 3, dhi m 3, dlo m 4, dhi m 4, dlo m 5, dhi m 5, dlo m 6, dhi m 6, dlo m 7, dhi m 7, dchk m % 16, dchk m / 16]
def dgc (m : BitVec 64) (c : Nat) : Nat := (dg m).getD c 0
theorem dg_len (m : BitVec 64) : (dg m).length = 18 := rfl
theorem dg_get (m : BitVec 64) (c : Nat) (h : c < 18) : (dg m)[c]? = some (dgc m c) := by
  unfold dgc; rw [List.getD_eq_getElem?_getD, List.getElem?_eq_getElem (by rw [dg_len]; exact h)]; rfl
theorem cases18 {p : Nat → Prop} (h0 : p 0) (h1 : p 1) (h2 : p 2) (h3 : p 3) (h4 : p 4) (h5 : p 5) (h6 : p 6) (h7 : p 7) (h8 : p 8) (h9 : p 9) (h10 : p 10) (h11 : p 11) (h12 : p 12) (h13 : p 13) (h14 : p 14) (h15 : p 15) (h16 : p 16) (h17 : p 17) :
    ∀ c, c < 18 → p c := fun c hc => by
  rcases c with _ | _ | _ | _ | _ | _ | _ | _ | _ | _ | _ | _ | _ | _ | _ | _ | _ | _ | c <;> first | assumption | omega
theorem cases8 {p : Nat → Prop} (h0 : p 0) (h1 : p 1) (h2 : p 2) (h3 : p 3) (h4 : p 4) (h5 : p 5) (h6 : p 6) (h7 : p 7) : ∀ c, c < 8 → p c := fun c hc => by
  rcases c with _ | _ | _ | _ | _ | _ | _ | _ | c <;> first | assumption | omega
theorem dgc_le (m : BitVec 64) (c : Nat) (h : c < 18) : dgc m c ≤ 15 := by
  revert c
  have l := dlo_lt m
  have h := dhi_lt m
  have hs := dsum_le m
  have h16 : dchk m % 16 ≤ 15 := by omega
  have h17 : dchk m / 16 ≤ 15 := by unfold dchk; omega
  exact cases18 (Nat.le_of_lt_succ (l 0)) (Nat.le_of_lt_succ (h 0)) (Nat.le_of_lt_succ (l 1)) (Nat.le_of_lt_succ (h 1)) (Nat.le_of_lt_succ (l 2)) (Nat.le_of_lt_succ (h 2)) (Nat.le_of_lt_succ (l 3)) (Nat.le_of_lt_succ (h 3))
    (Nat.le_of_lt_succ (l 4)) (Nat.le_of_lt_succ (h 4)) (Nat.le_of_lt_succ (l 5)) (Nat.le_of_lt_succ (h 5)) (Nat.le_of_lt_succ (l 6)) (Nat.le_of_lt_succ (h 6)) (Nat.le_of_lt_succ (l 7)) (Nat.le_of_lt_succ (h 7)) h16 h17
/-- If no digit of a is greater than b's, they are the same. -/
theorem dg_same (a b : BitVec 64) (h : ∀ c, c < 18 → dgc a c ≤ dgc b c) : a = b := by
  have hsa := dsum_le a
  have hsb := dsum_le b
  have l0 : dlo a 0 ≤ dlo b 0 := h 0 (by decide)
  have g0 : dhi a 0 ≤ dhi b 0 := h 1 (by decide)
  have l1 : dlo a 1 ≤ dlo b 1 := h 2 (by decide)
  have g1 : dhi a 1 ≤ dhi b 1 := h 3 (by decide)
  have l2 : dlo a 2 ≤ dlo b 2 := h 4 (by decide)
  have g2 : dhi a 2 ≤ dhi b 2 := h 5 (by decide)
  have l3 : dlo a 3 ≤ dlo b 3 := h 6 (by decide)
  have g3 : dhi a 3 ≤ dhi b 3 := h 7 (by decide)
  have l4 : dlo a 4 ≤ dlo b 4 := h 8 (by decide)
  have g4 : dhi a 4 ≤ dhi b 4 := h 9 (by decide)
  have l5 : dlo a 5 ≤ dlo b 5 := h 10 (by decide)
  have g5 : dhi a 5 ≤ dhi b 5 := h 11 (by decide)
  have l6 : dlo a 6 ≤ dlo b 6 := h 12 (by decide)
  have g6 : dhi a 6 ≤ dhi b 6 := h 13 (by decide)
  have l7 : dlo a 7 ≤ dlo b 7 := h 14 (by decide)
  have g7 : dhi a 7 ≤ dhi b 7 := h 15 (by decide)
  have c1 : dchk a % 16 ≤ dchk b % 16 := h 16 (by decide)
  have c2 : dchk a / 16 ≤ dchk b / 16 := h 17 (by decide)
  have hc : dchk a ≤ dchk b := by omega
  have hs : dsum b ≤ dsum a := by unfold dchk at hc; omega
  unfold dsum at hs
  have key : ∀ i, i < 8 → dlo a i = dlo b i ∧ dhi a i = dhi b i := cases8 (by omega) (by omega) (by omega) (by omega) (by omega) (by omega) (by omega) (by omega)
  refine dig_ext fun i hi => UInt8.toNat_inj.1 ?_
  obtain ⟨h1, h2⟩ := key i hi
  unfold dlo at h1; unfold dhi at h2
  omega
theorem dg_inj (a b : BitVec 64) (h : dg a = dg b) : a = b := dg_same a b fun c _ => by unfold dgc; rw [h]; exact Nat.le_refl _

/-- Where a chain of a secret begins. -/
def onceB (s : BitVec 64) (c : Nat) : BitVec 64 := hTwo s (BitVec.ofInt 64 (c : Int))
def onceG (s : BitVec 64) (c : Nat) : BitVec 64 := hChainI (onceB s c) 15
def onceKey (s : BitVec 64) : BitVec 64 := hMany ((List.range 18).map (onceG s))
def signW (s m : BitVec 64) (c : Nat) : BitVec 64 := hChainI (onceB s c) (dgc m c : Int)
def shownW (l : List UInt8) (c : Nat) : BitVec 64 := numL ((l.drop (8 * c)).take 8)
def toldG (m : BitVec 64) (l : List UInt8) (c : Nat) : BitVec 64 := hChainI (shownW l c) (15 - (dgc m c : Int))
def toldW (m : BitVec 64) (l : List UInt8) : BitVec 64 := hMany ((List.range 18).map (toldG m l))
def digs8 (f : Nat → BitVec 64) (k : Nat) : List UInt8 := (List.range k).flatMap fun c => digB (f c)
theorem digs8_succ (f : Nat → BitVec 64) (k : Nat) : digs8 f (k + 1) = digs8 f k ++ digB (f k) := by
  unfold digs8; rw [List.range_succ, List.flatMap_append]; simp
theorem digs8_len (f : Nat → BitVec 64) : ∀ k, (digs8 f k).length = 8 * k
  | 0 => rfl
  | k + 1 => by rw [digs8_succ, List.length_append, digs8_len f k]; rfl
theorem digs8_at (f : Nat → BitVec 64) (c : Nat) : ∀ k, c < k → ((digs8 f k).drop (8 * c)).take 8 = digB (f c)
  | 0, h => by omega
  | k + 1, h => by
    rw [digs8_succ]
    rcases Nat.lt_or_ge c k with h1 | h1
    · rw [List.drop_append_of_le_length (by rw [digs8_len]; omega), List.take_append_of_le_length (by rw [List.length_drop, digs8_len]; omega)]
      exact digs8_at f c k h1
    · obtain rfl : c = k := by omega
      rw [List.drop_append, digs8_len, Nat.sub_self, List.drop_eq_nil_of_le (by rw [digs8_len]; exact Nat.le_refl _)]; rfl
theorem shown_at (f : Nat → BitVec 64) (c k : Nat) (h : c < k) : shownW (digs8 f k) c = f c := by
  unfold shownW; rw [digs8_at f c k h]; exact numL_dig _
def signL (s m : BitVec 64) (k : Nat) : List UInt8 := digs8 (signW s m) k
theorem sign_len (s m : BitVec 64) : (signL s m 18).length = 144 := digs8_len _ 18
theorem shown_sign (s m : BitVec 64) (c : Nat) (h : c < 18) : shownW (signL s m 18) c = signW s m c := shown_at _ c 18 h
theorem chain_rest (x : BitVec 64) (d : Nat) (h : d ≤ 15) : hChainI (hChainI x (d : Int)) (15 - (d : Int)) = hChainI x 15 := by
  rw [hChainI_nat x d (by omega), show (15 : Int) - (d : Int) = ((15 - d : Nat) : Int) by omega, hChainI_nat _ (15 - d) (by omega), hChain_add, show d + (15 - d) = 15 by omega]
  exact (hChainI_nat x 15 (by decide)).symm
theorem told_sign (s m : BitVec 64) : toldW m (signL s m 18) = onceKey s := by
  unfold toldW onceKey
  congr 1
  apply List.map_congr_left
  intro c hc
  have hc : c < 18 := List.mem_range.1 hc
  unfold toldG onceG
  rw [shown_sign s m c hc]
  exact chain_rest _ _ (dgc_le m c hc)
theorem hChain_nat (x : BitVec 64) (k : Nat) (h : k ≤ 1048576) (j : Int) (hj : j = (k : Int)) : hChainI x j = hChain x k := by
  subst hj
  exact hChainI_nat x k h
/-- The least chain in which a is ahead of b; -1: none. -/
def aheadN (a b : BitVec 64) : Option Nat := (List.range 18).find? fun c => decide (dgc b c < dgc a c)
def aheadI (a b : BitVec 64) : Int := match aheadN a b with | some c => (c : Int) | none => -1
theorem ahead_some (a b : BitVec 64) (c : Nat) (hc : c < 18) (h : dgc b c < dgc a c) (hno : ∀ j, j < c → ¬ dgc b j < dgc a j) : aheadI a b = (c : Int) := by
  have : aheadN a b = some c := by
    unfold aheadN; rw [List.find?_range_eq_some]
    exact ⟨by simpa using h, List.mem_range.2 hc, fun j hj => by simpa using hno j hj⟩
  unfold aheadI; rw [this]
theorem ahead_none (a b : BitVec 64) (hno : ∀ j, j < 18 → ¬ dgc b j < dgc a j) : aheadI a b = -1 := by
  have : aheadN a b = none := by
    unfold aheadN; rw [List.find?_eq_none]
    intro c hc; simpa using hno c (List.mem_range.1 hc)
  unfold aheadI; rw [this]
theorem ahead_self (a : BitVec 64) : aheadI a a = -1 := ahead_none a a fun _ _ => Nat.lt_irrefl _
theorem ahead_of_ne (a b : BitVec 64) (h : a ≠ b) : ∃ c : Nat, c < 18 ∧ aheadI a b = (c : Int) ∧ dgc b c < dgc a c := by
  cases hc : aheadN a b with
  | none =>
    exfalso
    apply h
    refine dg_same a b fun c hc2 => ?_
    unfold aheadN at hc
    rw [List.find?_eq_none] at hc
    simpa using hc c (List.mem_range.2 hc2)
  | some c =>
    have h2 := hc
    unfold aheadN at h2
    rw [List.find?_range_eq_some] at h2
    exact ⟨c, List.mem_range.1 h2.2.1, by unfold aheadI; rw [hc], by simpa using h2.1⟩
@[reducible] def dgL (m : BitVec 64) : List Value := [I64 (dlo m 0 : Int), I64 (dhi m 0 : Int), I64 (dlo m 1 : Int), I64 (dhi m 1 : Int), I64 (dlo m 2 : Int), I64 (dhi m 2 : Int), I64 (dlo m 3 : Int), I64 (dhi m 3 : Int), I64 (dlo m 4 : Int), I64 (dhi m 4 : Int), I64 (dlo m 5 : Int), I64 (dhi m 5 : Int), I64 (dlo m 6 : Int), I64 (dhi m 6 : Int), I64 (dlo m 7 : Int), I64 (dhi m 7 : Int), I64 ((dchk m % 16 : Nat) : Int), I64 ((dchk m / 16 : Nat) : Int)]
@[reducible] def dgV (m : BitVec 64) : Value := .agg (dgL m).toArray
theorem dgL_at (m : BitVec 64) (c : Nat) (h : c < 18) : (dgL m)[c]? = some (I64 (dgc m c : Int)) := by
  revert c
  exact cases18 rfl rfl rfl rfl rfl rfl rfl rfl rfl rfl rfl rfl rfl rfl rfl rfl rfl rfl
theorem dgL_get (m : BitVec 64) (c : Nat) (h : c < 18) : ((dgL m).drop (0 + c * 1))[0]? = some (I64 (dgc m c : Int)) := by
  rw [List.getElem?_drop, Nat.add_zero, Nat.zero_add, Nat.mul_one]; exact dgL_at m c h
theorem dgL_get' (m : BitVec 64) (c : Nat) (h : c < 18) : ((dgL m).drop (c * 1))[0]? = some (I64 (dgc m c : Int)) := by
  rw [List.getElem?_drop, Nat.add_zero, Nat.mul_one]; exact dgL_at m c h
theorem chk_int (m : BitVec 64) : (240 : Int) - (((bt m 0).toNat % 16 : Nat) + ((bt m 0).toNat / 16 : Nat)) - (((bt m 1).toNat % 16 : Nat) + ((bt m 1).toNat / 16 : Nat)) - (((bt m 2).toNat % 16 : Nat) + ((bt m 2).toNat / 16 : Nat)) - (((bt m 3).toNat % 16 : Nat) + ((bt m 3).toNat / 16 : Nat))
    - (((bt m 4).toNat % 16 : Nat) + ((bt m 4).toNat / 16 : Nat)) - (((bt m 5).toNat % 16 : Nat) + ((bt m 5).toNat / 16 : Nat)) - (((bt m 6).toNat % 16 : Nat) + ((bt m 6).toNat / 16 : Nat)) - (((bt m 7).toNat % 16 : Nat) + ((bt m 7).toNat / 16 : Nat)) = ((dchk m : Nat) : Int) := by
  have h := dsum_le m
  unfold dchk
  unfold dsum dlo dhi at *
  omega
theorem chk_int2 (m : BitVec 64) : (0 : Int) + 30 - ((bt m 0).toNat % 16 : Nat) - ((bt m 0).toNat / 16 : Nat) + 30 - ((bt m 1).toNat % 16 : Nat) - ((bt m 1).toNat / 16 : Nat) + 30 - ((bt m 2).toNat % 16 : Nat) - ((bt m 2).toNat / 16 : Nat) + 30 - ((bt m 3).toNat % 16 : Nat) - ((bt m 3).toNat / 16 : Nat)
    + 30 - ((bt m 4).toNat % 16 : Nat) - ((bt m 4).toNat / 16 : Nat) + 30 - ((bt m 5).toNat % 16 : Nat) - ((bt m 5).toNat / 16 : Nat) + 30 - ((bt m 6).toNat % 16 : Nat) - ((bt m 6).toNat / 16 : Nat) + 30 - ((bt m 7).toNat % 16 : Nat) - ((bt m 7).toNat / 16 : Nat) = ((dchk m : Nat) : Int) := by
  have h := dsum_le m
  unfold dchk
  unfold dsum dlo dhi at *
  omega
/-- The cells of 18 digests, k of them told. -/
def endL (g : Nat → BitVec 64) (k : Nat) : List Value := ((List.range k).map g).flatMap digL ++ List.replicate (8 * (18 - k)) (.int .u8 0)
theorem end_front (g : Nat → BitVec 64) (k : Nat) : (((List.range k).map g).flatMap digL).length = 8 * k := by rw [dig_len]; simp; omega
theorem end_len (g : Nat → BitVec 64) (k : Nat) (h : k ≤ 18) : (endL g k).length = 144 := by
  unfold endL; rw [List.length_append, end_front, List.length_replicate]; omega
theorem end_set (g : Nat → BitVec 64) (k : Nat) (h : k < 18) : splice (endL g k) (0 + k * 8) (digL (g k)) = endL g (k + 1) := by
  unfold splice endL
  rw [show 0 + k * 8 = (((List.range k).map g).flatMap digL).length from by rw [end_front]; omega, List.take_left, ← List.drop_drop, List.drop_left, List.drop_replicate, List.range_succ, List.map_append, List.flatMap_append]
  rw [show 8 * (18 - k) - (digL (g k)).length = 8 * (18 - (k + 1)) from by show 8 * (18 - k) - 8 = _; omega]
  simp
theorem end_full (g : Nat → BitVec 64) : endL g 18 = ((List.range 18).map g).flatMap digL := by unfold endL; simp
theorem end_zero (g : Nat → BitVec 64) : endL g 0 = List.replicate 144 (.int .u8 0) := by unfold endL; simp
theorem shown_cells (l : List UInt8) (c : Nat) (h : 8 * c + 8 ≤ l.length) : digL (shownW l c) = [U8 (l[8 * c + 0]'(by omega)), U8 (l[8 * c + 1]'(by omega)), U8 (l[8 * c + 2]'(by omega)), U8 (l[8 * c + 3]'(by omega)), U8 (l[8 * c + 4]'(by omega)), U8 (l[8 * c + 5]'(by omega)), U8 (l[8 * c + 6]'(by omega)), U8 (l[8 * c + 7]'(by omega))] := by
  unfold shownW
  have hl : ((l.drop (8 * c)).take 8).length = 8 := by rw [List.length_take, List.length_drop]; omega
  rw [dig_numL hl]
  apply List.ext_getElem (by simp [hl]; omega)
  intro i h1 h2
  have hi : i < 8 := by simpa using h2
  rcases i with _ | _ | _ | _ | _ | _ | _ | _ | i
  all_goals first | (simp; done) | omega
/-! ### when two rows of ints are the same -/
theorem forIn_all {P : Program} {α : Type} (f : α → Option Bool × Unit → Sem (ForInStep (Option Bool × Unit))) (g : α → Bool) (w : World) : ∀ is : List α,
    (∀ i ∈ is, (f i (none, ())).run P w = .ok (if g i then .yield (none, ()) else .done (some false, ())) w) →
    (forIn is ((none, ()) : Option Bool × Unit) f).run P w = .ok (if is.all g then (none, ()) else (some false, ())) w
  | [], _ => by simp
  | i :: is, h => by
    rw [List.forIn_cons, Sem.run_bind, h i (List.mem_cons_self ..), Result.andThen_ok]
    cases hg : g i with
    | false => simp [hg]
    | true =>
      simp only [if_true]
      rw [forIn_all f g w is fun j hj => h j (List.mem_cons_of_mem _ hj)]
      simp [hg]
def isInts (P : Program) (t : TypeId) (len : Nat) : Bool :=
  match P.underlying t with
  | some (.array n e) => n == len && isI64 P e && (match P.info? e with | some i => i.size == 1 | none => false)
  | _ => false
structure IntsT (P : Program) (t : TypeId) (len : Nat) : Prop where
  guard : P.eqGuardType P.depth t = false
  is : isInts P t len = true
theorem run_equal_ints {P : Program} {t : TypeId} {len : Nat} (h : IntsT P t len) (l r : List Int) (hl : l.length = len) (hr : r.length = len) (w : World) :
    (Op.equal t (.agg (l.map I64).toArray) (.agg (r.map I64).toArray)).run P w = .ok (decide (l = r)) w := by
  have his := h.is
  unfold isInts at his
  split at his
  · rename_i n e hu
    simp only [Bool.and_eq_true, beq_iff_eq] at his
    obtain ⟨⟨hn, he⟩, hz⟩ := his
    subst hn
    split at hz
    · rename_i inf hinf
      have hz : inf.size = 1 := by simpa using hz
      have ue := isI64_spec he
      have hp : ∀ (l : List Int) (i : Nat) (hi : i < l.length), (part e (l.map I64).toArray i).run P w = .ok (I64 l[i]) w := fun l i hi => by
        simp [part, isAgg, run_underlying ue, hi]
      have heq : ∀ (d : Nat) (a b : Int), (Op.equalIn (d + 1) e (I64 a) (I64 b)).run P w = .ok (decide (a = b)) w := fun d a b => by
        simp [Op.equalIn, run_underlying ue]
        by_cases hab : a = b <;> simp [hab]
      suffices H : ∀ d, (Op.equalIn (d + 2) t (.agg (l.map I64).toArray) (.agg (r.map I64).toArray)).run P w = .ok (decide (l = r)) w from H 9998
      intro d
      rw [show d + 2 = (d + 1) + 1 from rfl]
      unfold Op.equalIn
      simp only [Sem.run_bind, run_underlying hu, Result.andThen_ok, sizeOf, typeInfo, run_program, hinf, Sem.run_pure, hz, Nat.mul_one]
      rw [show ([:n] : Std.Legacy.Range) = [0:n] from rfl]
      simp only [Std.Legacy.Range.forIn_eq_forIn_range', Std.Legacy.Range.size, Nat.sub_zero, Nat.add_one_sub_one, Nat.div_one]
      rw [forIn_all (P := P) _ (fun i => decide (l[i]? = r[i]?)) w]
      · by_cases hlr : l = r
        · subst hlr; simp
        · have : ((List.range' 0 n).all fun i => decide (l[i]? = r[i]?)) = false := by
            rw [List.all_eq_false]
            apply Classical.byContradiction
            intro hno
            apply hlr
            apply List.ext_getElem (by omega)
            intro i h1 h2
            have : ¬ ¬ decide (l[i]? = r[i]?) = true := fun hh => hno ⟨i, by rw [List.mem_range'_1]; omega, hh⟩
            simpa [h1, h2] using this
          rw [this]; simp [hlr]
      · intro i hi
        rw [List.mem_range'_1] at hi
        have h1 : i < l.length := by omega
        have h2 : i < r.length := by omega
        simp only [Sem.run_bind, hp l i h1, hp r i h2, Result.andThen_ok, heq, List.getElem?_eq_getElem h1, List.getElem?_eq_getElem h2, Option.some.injEq]
        by_cases hlr : l[i] = r[i] <;> simp [hlr]
    · cases hz
  · cases his
section
variable {P : Program} {n : Nat} {w0 : World} {mods : List Nat} {E : Env} {L : List Ent} {dst : Option Tmp} {T t ty : TypeId} {pos : String} {after : Array Edge} {g : Option (Nat × Bool)} {x y z : Operand}
theorem val_eqlInts {len : Nat} {u v : Value} {l r : List Int} (hk : IntsT P t len) (hx : Env.ev E x = some u) (hy : Env.ev E y = some v) (hu : u = .agg (l.map I64).toArray) (hv : v = .agg (r.map I64).toArray) (hl : l.length = len) (hr : r.length = len) :
    Val P n w0 mods E L ⟨dst, .binOp .eql t x y ty, T, pos, after, g⟩ (.bool (decide (l = r))) := fun a w hf hi => by
  subst hu; subst hv
  have := run_equal_ints hk l r hl hr w
  simp only [execOp, hf.eval hx, hf.eval hy, Sem.run_bind, run_eqGuard_agg hk.guard, Result.andThen_ok, binOp, this, Sem.run_pure]
end
def dgI (m : BitVec 64) : List Int := [(dlo m 0 : Int), (dhi m 0 : Int), (dlo m 1 : Int), (dhi m 1 : Int), (dlo m 2 : Int), (dhi m 2 : Int), (dlo m 3 : Int), (dhi m 3 : Int), (dlo m 4 : Int), (dhi m 4 : Int), (dlo m 5 : Int), (dhi m 5 : Int), (dlo m 6 : Int), (dhi m 6 : Int), (dlo m 7 : Int), (dhi m 7 : Int), ((dchk m % 16 : Nat) : Int), ((dchk m / 16 : Nat) : Int)]
theorem dgI_inj (a b : BitVec 64) (h : dgI a = dgI b) : a = b := by
  refine dg_inj a b ?_
  unfold dgI at h; unfold dg
  simp only [List.cons.injEq, Int.natCast_inj] at h ⊢
  exact h
theorem flat_step (g : Nat → BitVec 64) (k : Nat) : ((List.range (k + 1)).map g).flatMap digL = ((List.range k).map g).flatMap digL ++ digL (g k) := by
  rw [List.range_succ, List.map_append, List.flatMap_append]; simp
/-- The key that any bytes tell. -/
def toldI (m : BitVec 64) (l : List UInt8) : BitVec 64 := if l.length = 144 then toldW m l else 0#64
theorem Sees.part0 {w0 : World} {mods : List Nat} {L : List Ent} {cs : List Value} {b k : Nat} (h : Sees w0 mods L (some ⟨b, 0, none⟩) cs) : Sees w0 mods L (some ⟨b, 0 + k, none⟩) (cs.drop k) := by
  have := h.part k
  rwa [Option.map_some, add_mk] at this
theorem told_of_sign (s m : BitVec 64) : (signL s m 18).length = 144 ∧ toldI m (signL s m 18) = onceKey s := ⟨sign_len s m, by unfold toldI; rw [if_pos (sign_len s m)]; exact told_sign s m⟩
theorem toldI_of (m : BitVec 64) (l : List UInt8) (h : l.length = 144) : toldI m l = toldW m l := if_pos h
def showI (l : List UInt8) (c : Int) : BitVec 64 := if l.length = 144 ∧ 0 ≤ c ∧ c < 18 then shownW l c.toNat else 0#64
theorem dig_back (m : BitVec 64) (i : Nat) : IntKind.u8.wrap (((dlo m i : Nat) : Int) + 16 * ((dhi m i : Nat) : Int)) = ((bt m i).toNat : Int) := by
  rw [wrap_u8]
  have := (bt m i).toNat_lt
  unfold dlo dhi; omega
theorem chain_more (x : BitVec 64) (d e : Nat) (h : d ≤ e) (he : e ≤ 15) : hChainI (hChainI x (d : Int)) ((e : Int) - (d : Int)) = hChainI x (e : Int) := by
  rw [hChainI_nat x d (by omega), show (e : Int) - (d : Int) = ((e - d : Nat) : Int) by omega, hChainI_nat _ (e - d) (by omega), hChain_add, show d + (e - d) = e by omega, hChainI_nat x e (by omega)]
section
variable {P : Program} {n : Nat} {w0 : World} {mods : List Nat} {E : Env} {L : List Ent} {dst : Option Tmp} {T t ty : TypeId} {pos : String} {after : Array Edge} {g : Option (Nat × Bool)} {x y z : Operand}
theorem wrap_u32 (n : Int) : IntKind.u32.wrap n = n % 4294967296 := by simp [IntKind.wrap, IntKind.signed, IntKind.bits]
theorem val_rem32 {w k : Nat} {j : Int} (hx : Env.ev E x = some (.int .u32 (w : Int))) (hy : Env.ev E y = some (.int .u32 j)) (hj : j = (k : Int)) (hk : 0 < k) : Val P n w0 mods E L ⟨dst, .binOp .rem t x y ty, T, pos, after, g⟩ (.int .u32 ((w % k : Nat) : Int)) := by
  subst hj
  have h : Int.tmod (w : Int) (k : Int) = ((w % k : Nat) : Int) := by rw [Int.tmod_eq_emod_of_nonneg (by omega)]; rfl
  have := val_remT (P := P) (n := n) (w0 := w0) (mods := mods) (L := L) (dst := dst) (T := T) (t := t) (ty := ty) (pos := pos) (after := after) (g := g) hx hy (by omega)
  rwa [h] at this
theorem val_quo32 {w k : Nat} {j : Int} (hx : Env.ev E x = some (.int .u32 (w : Int))) (hy : Env.ev E y = some (.int .u32 j)) (hj : j = (k : Int)) (hk : 0 < k) (hw : w < 4294967296) : Val P n w0 mods E L ⟨dst, .binOp .quo t x y ty, T, pos, after, g⟩ (.int .u32 ((w / k : Nat) : Int)) := fun a w' hf _ => by
  subst hj
  have h : Int.tdiv (w : Int) (k : Int) = ((w / k : Nat) : Int) := by rw [Int.tdiv_eq_ediv_of_nonneg (by omega)]; rfl
  have h2 : w / k ≤ w := Nat.div_le_self _ _
  have h4 : IntKind.wrap .u32 ((w / k : Nat) : Int) = ((w / k : Nat) : Int) := by
    rw [wrap_u32]; generalize w / k = q at h2; omega
  have hk1 : k ≠ 0 := by omega
  have h5 : IntKind.wrap .u32 ((w : Int) / (k : Int)) = (w : Int) / (k : Int) := h4
  simp [execOp, hf.eval hx, hf.eval hy, eqGuard_int, binOp, Op.intDiv, hk1, h5]
end
theorem tell_same (m : BitVec 64) (l : List UInt8) : (decide (l.length = 144 ∧ toldI m l = toldI m l) == decide (l.length = 144)) = true := by simp
theorem sign_part (s m : BitVec 64) (k : Nat) (hk : k < 18) : (((signL s m 18).map U8).drop (8 * k * 1)).take 8 = (digB (signW s m k)).map U8 := by
  rw [Nat.mul_one, ← List.map_drop, ← List.map_take]; exact congrArg (List.map U8) (digs8_at _ k 18 hk)
end Go.Eng
