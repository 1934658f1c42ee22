/- Plain laws of chapter 5: digits of a message, chains of a key, what a signature shows. No condition but those stated. -/
import Derived.Test.YthmepionpjkcgaaEngG
namespace Go.Eng
open Go
def dlo (m : BitVec 64) (i : Nat) : Nat := (bt m i).toNat % 16
def dhi (m : BitVec 64) (i : Nat) : Nat := (bt m i).toNat / 16
theorem dlo_lt (m : BitVec 64) (i : Nat) : dlo m i < 16 := Nat.mod_lt _ (by decide)
theorem dhi_lt (m : BitVec 64) (i : Nat) : dhi m i < 16 := by
  have := (bt m i).toNat_lt
  unfold dhi; omega
def dsum (m : BitVec 64) : Nat := dlo m 0 + dhi m 0 + dlo m 1 + dhi m 1 + dlo m 2 + dhi m 2 + dlo m 3 + dhi m 3 + dlo m 4 + dhi m 4 + dlo m 5 + dhi m 5 + dlo m 6 + dhi m 6 + dlo m 7 + dhi m 7
theorem dsum_le (m : BitVec 64) : dsum m ≤ 240 := by
  have := dlo_lt m 0; have := dlo_lt m 1; have := dlo_lt m 2; have := dlo_lt m 3; have := dlo_lt m 4; have := dlo_lt m 5; have := dlo_lt m 6; have := dlo_lt m 7
  have := dhi_lt m 0; have := dhi_lt m 1; have := dhi_lt m 2; have := dhi_lt m 3; have := dhi_lt m 4; have := dhi_lt m 5; have := dhi_lt m 6; have := dhi_lt m 7
  unfold dsum; omega
def dchk (m : BitVec 64) : Nat := 240 - dsum m
/-- A message's digits. -/
def dg (m : BitVec 64) : List Nat := [dlo m 0, dhi m 0, dlo m 1, dhi m 1, dlo m 2, dhi m 2, dlo m 3, dhi m 3, dlo m 4, dhi m 4, dlo m 5, dhi m 5, dlo m 6, dhi m 6, dlo m 7, dhi m 7, dchk m % 16, dchk m / 16]
def dgc (m : BitVec 64) (c : Nat) : Nat := (dg m).getD c 0
theorem dg_len (m : BitVec 64) : (dg m).length = 18 := rfl
theorem dg_get (m : BitVec 64) (c : Nat) (h : c < 18) : (dg m)[c]? = some (dgc m c) := by
  unfold dgc; rw [List.getD_eq_getElem?_getD, List.getElem?_eq_getElem (by rw [dg_len]; exact h)]; rfl
theorem cases18 {p : Nat → Prop} (h0 : p 0) (h1 : p 1) (h2 : p 2) (h3 : p 3) (h4 : p 4) (h5 : p 5) (h6 : p 6) (h7 : p 7) (h8 : p 8) (h9 : p 9) (h10 : p 10) (h11 : p 11) (h12 : p 12) (h13 : p 13) (h14 : p 14) (h15 : p 15) (h16 : p 16) (h17 : p 17) :
    ∀ c, c < 18 → p c := fun c hc => by
  rcases c with _ | _ | _ | _ | _ | _ | _ | _ | _ | _ | _ | _ | _ | _ | _ | _ | _ | _ | c <;> first | assumption | omega
theorem cases8 {p : Nat → Prop} (h0 : p 0) (h1 : p 1) (h2 : p 2) (h3 : p 3) (h4 : p 4) (h5 : p 5) (h6 : p 6) (h7 : p 7) : ∀ c, c < 8 → p c := fun c hc => by
  rcases c with _ | _ | _ | _ | _ | _ | _ | _ | c <;> first | assumption | omega
theorem dgc_le (m : BitVec 64) (c : Nat) (h : c < 18) : dgc m c ≤ 15 := by
  revert c
  have l := dlo_lt m
  have h := dhi_lt m
  have hs := dsum_le m
  have h16 : dchk m % 16 ≤ 15 := by omega
  have h17 : dchk m / 16 ≤ 15 := by unfold dchk; omega
  exact cases18 (Nat.le_of_lt_succ (l 0)) (Nat.le_of_lt_succ (h 0)) (Nat.le_of_lt_succ (l 1)) (Nat.le_of_lt_succ (h 1)) (Nat.le_of_lt_succ (l 2)) (Nat.le_of_lt_succ (h 2)) (Nat.le_of_lt_succ (l 3)) (Nat.le_of_lt_succ (h 3))
    (Nat.le_of_lt_succ (l 4)) (Nat.le_of_lt_succ (h 4)) (Nat.le_of_lt_succ (l 5)) (Nat.le_of_lt_succ (h 5)) (Nat.le_of_lt_succ (l 6)) (Nat.le_of_lt_succ (h 6)) (Nat.le_of_lt_succ (l 7)) (Nat.le_of_lt_succ (h 7)) h16 h17
/-- If no digit of a is greater than b's, they are the same. -/
theorem dg_same (a b : BitVec 64) (h : ∀ c, c < 18 → dgc a c ≤ dgc b c) : a = b := by
  have hsa := dsum_le a
  have hsb := dsum_le b
  have l0 : dlo a 0 ≤ dlo b 0 := h 0 (by decide)
  have g0 : dhi a 0 ≤ dhi b 0 := h 1 (by decide)
  have l1 : dlo a 1 ≤ dlo b 1 := h 2 (by decide)
  have g1 : dhi a 1 ≤ dhi b 1 := h 3 (by decide)
  have l2 : dlo a 2 ≤ dlo b 2 := h 4 (by decide)
  have g2 : dhi a 2 ≤ dhi b 2 := h 5 (by decide)
  have l3 : dlo a 3 ≤ dlo b 3 := h 6 (by decide)
  have g3 : dhi a 3 ≤ dhi b 3 := h 7 (by decide)
  have l4 : dlo a 4 ≤ dlo b 4 := h 8 (by decide)
  have g4 : dhi a 4 ≤ dhi b 4 := h 9 (by decide)
  have l5 : dlo a 5 ≤ dlo b 5 := h 10 (by decide)
  have g5 : dhi a 5 ≤ dhi b 5 := h 11 (by decide)
  have l6 : dlo a 6 ≤ dlo b 6 := h 12 (by decide)
  have g6 : dhi a 6 ≤ dhi b 6 := h 13 (by decide)
  have l7 : dlo a 7 ≤ dlo b 7 := h 14 (by decide)
  have g7 : dhi a 7 ≤ dhi b 7 := h 15 (by decide)
  have c1 : dchk a % 16 ≤ dchk b % 16 := h 16 (by decide)
  have c2 : dchk a / 16 ≤ dchk b / 16 := h 17 (by decide)
  have hc : dchk a ≤ dchk b := by omega
  have hs : dsum b ≤ dsum a := by unfold dchk at hc; omega
  unfold dsum at hs
  have key : ∀ i, i < 8 → dlo a i = dlo b i ∧ dhi a i = dhi b i := cases8 (by omega) (by omega) (by omega) (by omega) (by omega) (by omega) (by omega) (by omega)
  refine dig_ext fun i hi => UInt8.toNat_inj.1 ?_
  obtain ⟨h1, h2⟩ := key i hi
  unfold dlo at h1; unfold dhi at h2
  omega
theorem dg_inj (a b : BitVec 64) (h : dg a = dg b) : a = b := dg_same a b fun c _ => by unfold dgc; rw [h]; exact Nat.le_refl _

/-- Where a chain of a secret begins. -/
def onceB (s : BitVec 64) (c : Nat) : BitVec 64 := hTwo s (BitVec.ofNat 64 c)
def onceKey (s : BitVec 64) : BitVec 64 := hMany ((List.range 18).map fun c => hChain (onceB s c) 15)
def signW (s m : BitVec 64) (c : Nat) : BitVec 64 := hChain (onceB s c) (dgc m c)
def signL (s m : BitVec 64) (k : Nat) : List UInt8 := (List.range k).flatMap fun c => digB (signW s m c)
def shownW (l : List UInt8) (c : Nat) : BitVec 64 := numL ((l.drop (8 * c)).take 8)
def toldL (m : BitVec 64) (l : List UInt8) (k : Nat) : List (BitVec 64) := (List.range k).map fun c => hChain (shownW l c) (15 - dgc m c)
def toldW (m : BitVec 64) (l : List UInt8) : BitVec 64 := hMany (toldL m l 18)
def digs8 (f : Nat → BitVec 64) (k : Nat) : List UInt8 := (List.range k).flatMap fun c => digB (f c)
theorem digs8_succ (f : Nat → BitVec 64) (k : Nat) : digs8 f (k + 1) = digs8 f k ++ digB (f k) := by
  unfold digs8; rw [List.range_succ, List.flatMap_append]; simp
theorem digs8_len (f : Nat → BitVec 64) : ∀ k, (digs8 f k).length = 8 * k
  | 0 => rfl
  | k + 1 => by rw [digs8_succ, List.length_append, digs8_len f k]; rfl
theorem digs8_at (f : Nat → BitVec 64) (c : Nat) : ∀ k, c < k → ((digs8 f k).drop (8 * c)).take 8 = digB (f c)
  | 0, h => by omega
  | k + 1, h => by
    rw [digs8_succ]
    rcases Nat.lt_or_ge c k with h1 | h1
    · rw [List.drop_append_of_le_length (by rw [digs8_len]; omega), List.take_append_of_le_length (by rw [List.length_drop, digs8_len]; omega)]
      exact digs8_at f c k h1
    · obtain rfl : c = k := by omega
      rw [List.drop_append, digs8_len, Nat.sub_self, List.drop_eq_nil_of_le (by rw [digs8_len]; exact Nat.le_refl _)]; rfl
theorem shown_at (f : Nat → BitVec 64) (c k : Nat) (h : c < k) : shownW (digs8 f k) c = f c := by
  unfold shownW; rw [digs8_at f c k h]; exact numL_dig _
theorem sign_len (s m : BitVec 64) : (signL s m 18).length = 144 := digs8_len _ 18
theorem shown_sign (s m : BitVec 64) (c : Nat) (h : c < 18) : shownW (signL s m 18) c = signW s m c := shown_at _ c 18 h
theorem told_sign (s m : BitVec 64) : toldW m (signL s m 18) = onceKey s := by
  unfold toldW onceKey toldL
  congr 1
  apply List.map_congr_left
  intro c hc
  have hc : c < 18 := List.mem_range.1 hc
  have := dgc_le m c hc
  rw [shown_sign s m c hc, signW, hChain_add]
  congr 1; omega
theorem hChain_nat (x : BitVec 64) (k : Nat) (h : k ≤ 1048576) (j : Int) (hj : j = (k : Int)) : hChainI x j = hChain x k := by
  subst hj
  exact hChainI_nat x k h
/-- The least chain in which a is ahead of b; -1: none. -/
def aheadN (a b : BitVec 64) : Option Nat := (List.range 18).find? fun c => decide (dgc b c < dgc a c)
def aheadI (a b : BitVec 64) : Int := match aheadN a b with | some c => (c : Int) | none => -1
theorem ahead_some (a b : BitVec 64) (c : Nat) (hc : c < 18) (h : dgc b c < dgc a c) (hno : ∀ j, j < c → ¬ dgc b j < dgc a j) : aheadI a b = (c : Int) := by
  have : aheadN a b = some c := by
    unfold aheadN; rw [List.find?_range_eq_some]
    exact ⟨by simpa using h, List.mem_range.2 hc, fun j hj => by simpa using hno j hj⟩
  unfold aheadI; rw [this]
theorem ahead_none (a b : BitVec 64) (hno : ∀ j, j < 18 → ¬ dgc b j < dgc a j) : aheadI a b = -1 := by
  have : aheadN a b = none := by
    unfold aheadN; rw [List.find?_eq_none]
    intro c hc; simpa using hno c (List.mem_range.1 hc)
  unfold aheadI; rw [this]
theorem ahead_self (a : BitVec 64) : aheadI a a = -1 := ahead_none a a fun _ _ => Nat.lt_irrefl _
theorem ahead_of_ne (a b : BitVec 64) (h : a ≠ b) : ∃ c : Nat, c < 18 ∧ aheadI a b = (c : Int) ∧ dgc b c < dgc a c := by
  cases hc : aheadN a b with
  | none =>
    exfalso
    apply h
    refine dg_same a b fun c hc2 => ?_
    unfold aheadN at hc
    rw [List.find?_eq_none] at hc
    simpa using hc c (List.mem_range.2 hc2)
  | some c =>
    have h2 := hc
    unfold aheadN at h2
    rw [List.find?_range_eq_some] at h2
    exact ⟨c, List.mem_range.1 h2.2.1, by unfold aheadI; rw [hc], by simpa using h2.1⟩
end Go.Eng
