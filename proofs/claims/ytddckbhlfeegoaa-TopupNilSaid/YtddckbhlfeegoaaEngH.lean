/-
  The plain laws of digests: words alone, no program.
-/
import Derived.Test.YtddckbhlfeegoaaEngF
namespace Go.Eng
open Go
set_option linter.unusedVariables false

/-- A word turned left. -/
def left (w : BitVec 64) (n : Nat) : BitVec 64 := w <<< n ||| w >>> (64 - n)
structure St where
  a : BitVec 64
  b : BitVec 64
  c : BitVec 64
  d : BitVec 64
@[reducible] def stL (s : St) : List Value := [U64 s.a, U64 s.b, U64 s.c, U64 s.d]
@[reducible] def stV (s : St) : Value := .agg (stL s).toArray
def St.mix (s : St) (m n : Nat) : St :=
  { a := s.a, d := left (s.d ^^^ s.a) m, c := s.c + left (s.d ^^^ s.a) m, b := left (s.b ^^^ (s.c + left (s.d ^^^ s.a) m)) n }
def St.round (s : St) (r : BitVec 64) : St :=
  let s := (({ s with a := (s.a + s.b) ^^^ r } : St).mix 32 24)
  ({ s with a := s.a + s.b } : St).mix 16 63
def St.rounds (s : St) : Nat → St
  | 0 => s
  | k + 1 => (s.rounds k).round (BitVec.ofInt 64 ((k : Int) + 1))
def St.stir (s : St) : St := s.rounds 6
def St.take (s : St) (n : BitVec 64) : St := ({ s with a := s.a ^^^ n } : St).stir
def St.out (s : St) : BitVec 64 := s.a ^^^ s.c
def St.begin (k : BitVec 64) : St := ⟨2611923443488327891#64, 1376283091369227076#64, 11820040416388919760#64, k⟩

theorem rot_and (k : Nat) (hk : k < 64) : (BitVec.ofInt 64 (k : Int) &&& 63#64) = BitVec.ofNat 64 k := by
  have : k = 0 ∨ k = 1 ∨ k = 2 ∨ k = 3 ∨ k = 4 ∨ k = 5 ∨ k = 6 ∨ k = 7 ∨ k = 8 ∨ k = 9 ∨ k = 10 ∨ k = 11 ∨ k = 12 ∨ k = 13 ∨ k = 14 ∨ k = 15 ∨ 16 ≤ k := by omega
  rw [BitVec.ofInt_natCast]
  apply BitVec.eq_of_toNat_eq
  rw [BitVec.toNat_and]
  show k % 2 ^ 64 &&& (2 ^ 6 - 1) = k % 2 ^ 64
  rw [Nat.and_two_pow_sub_one_eq_mod]
  omega
theorem rot_eq (x : BitVec 64) (k : Nat) (hk : k < 64) :
    x <<< (BitVec.ofInt 64 (k : Int) &&& 63#64).toNat ||| x >>> (64#64 - (BitVec.ofInt 64 (k : Int) &&& 63#64)).toNat = left x k := by
  rw [rot_and k hk]
  unfold left
  have h1 : (BitVec.ofNat 64 k).toNat = k := by simp; omega
  have h2 : (64#64 - BitVec.ofNat 64 k).toNat = 64 - k := by
    rw [BitVec.toNat_sub, h1]; simp; omega
  rw [h1, h2]

/-- The number whose bytes these are, the lowest first. -/
def numL : List UInt8 → BitVec 64
  | [] => 0#64
  | b :: l => b.toBitVec.setWidth 64 ||| (numL l <<< 8)
theorem numL_snoc (l : List UInt8) (x : UInt8) : numL (l ++ [x]) = numL l ||| (x.toBitVec.setWidth 64) <<< (8 * l.length) := by
  induction l with
  | nil => simp [numL]
  | cons b l ih =>
    simp only [List.cons_append, numL, ih, List.length_cons, BitVec.shiftLeft_or_distrib, BitVec.or_assoc, ← BitVec.shiftLeft_add]
    rfl
theorem numL_step (l : List UInt8) (k : Nat) (hk : k < l.length) : numL (l.take k) ||| (l[k].toBitVec.setWidth 64) <<< (8 * k) = numL (l.take (k + 1)) := by
  rw [List.take_succ_eq_append_getElem hk, numL_snoc]
  simp [Nat.min_eq_left (Nat.le_of_lt hk)]
theorem numL_bit : ∀ (l : List UInt8) (m : Nat), m < 64 → (numL l).getLsbD m = ((l[m / 8]?).map (fun b => b.toBitVec.getLsbD (m % 8))).getD false
  | [], m, _ => by simp [numL]
  | b :: l, m, hm => by
    simp only [numL, BitVec.getLsbD_or, BitVec.getLsbD_shiftLeft, BitVec.getLsbD_setWidth]
    by_cases h : m < 8
    · rw [Nat.div_eq_of_lt h, Nat.mod_eq_of_lt h]
      simp [h, hm]
    · have h1 : m / 8 = (m - 8) / 8 + 1 := by omega
      have h2 : m % 8 = (m - 8) % 8 := by omega
      have h3 := numL_bit l (m - 8) (by omega)
      have h4 : b.toBitVec.getLsbD m = false := BitVec.getLsbD_of_ge _ _ (by omega)
      rw [h1, h2, List.getElem?_cons_succ, ← h3]
      simp [h, hm, h4]
theorem digB_get (x : BitVec 64) (q : Nat) (hq : q < 8) : (digB x)[q]? = some (bt x q) := by
  rcases q with _ | _ | _ | _ | _ | _ | _ | _ | q <;> first | rfl | omega
theorem numL_dig (x : BitVec 64) : numL (digB x) = x := by
  apply BitVec.eq_of_getLsbD_eq
  intro m hm
  rw [numL_bit _ m hm, digB_get x (m / 8) (by omega)]
  simp only [Option.map_some, Option.getD_some]
  rw [bt_bit x (m / 8) (m % 8) (by omega), Nat.div_add_mod]

theorem numL_one (l : List UInt8) : numL l ||| 1#64 <<< (8 * l.length) = numL (l ++ [1]) := by
  rw [numL_snoc]; rfl
theorem numL_zeros (l : List UInt8) (z : Nat) : numL (l ++ List.replicate z 0) = numL l := by
  induction z generalizing l with
  | zero => simp
  | succ z ih =>
    rw [List.replicate_succ', ← List.append_assoc, numL_snoc, ih]
    simp
theorem digB_numL {l : List UInt8} (h : l.length = 8) : digB (numL l) = l := by
  apply List.ext_getElem? 
  intro q
  rcases Nat.lt_or_ge q 8 with hq | hq
  · rw [digB_get _ q hq]
    have hl : q < l.length := by omega
    rw [List.getElem?_eq_getElem hl]
    congr 1
    have : (bt (numL l) q).toBitVec = l[q].toBitVec := by
      apply BitVec.eq_of_getLsbD_eq
      intro m hm
      rw [bt_bit _ q m hm, numL_bit l (8 * q + m) (by omega)]
      rw [show (8 * q + m) / 8 = q by omega, show (8 * q + m) % 8 = m by omega, List.getElem?_eq_getElem hl]
      rfl
    exact UInt8.eq_of_toBitVec_eq this
  · rw [List.getElem?_eq_none (by simpa using hq), List.getElem?_eq_none (by omega)]
@[reducible] def zero8 : List Value := [.int .u8 0, .int .u8 0, .int .u8 0, .int .u8 0, .int .u8 0, .int .u8 0, .int .u8 0, .int .u8 0]
theorem dig_numL {l : List UInt8} (h : l.length = 8) : digL (numL l) = l.map U8 := by
  have : digL (numL l) = (digB (numL l)).map U8 := rfl
  rw [this, digB_numL h]

/-- So many blocks of eight bytes taken in. -/
def St.absorb (s : St) (l : List UInt8) : Nat → St
  | 0 => s
  | k + 1 => (s.absorb l k).take (numL ((l.drop (8 * k)).take 8))
/-- Bytes taken in. -/
def St.bytes (s : St) (l : List UInt8) : St :=
  ((s.absorb l (l.length / 8)).take (numL (l.drop (8 * (l.length / 8)) ++ [1]))).take (BitVec.ofNat 64 l.length)
theorem absorb_append (s : St) (l m : List UInt8) : ∀ k, 8 * k ≤ l.length → s.absorb (l ++ m) k = s.absorb l k
  | 0, _ => rfl
  | k + 1, h => by
    simp only [St.absorb]
    rw [absorb_append s l m k (by omega)]
    congr 2
    rw [List.drop_append_of_le_length (by omega), List.take_append_of_le_length (by simp; omega)]
/-- The same of the padded bytes. -/
theorem absorb_pad (s : St) (l : List UInt8) (z q : Nat) (h : l.length + 1 + z = 8 * q) (hz : z < 8) :
    (s.absorb (l ++ [1] ++ List.replicate z 0) q).take (BitVec.ofNat 64 l.length) = s.bytes l := by
  unfold St.bytes
  have hq : q = l.length / 8 + 1 := by omega
  subst hq
  simp only [St.absorb]
  congr 2
  · rw [List.append_assoc, absorb_append s l _ _ (by omega)]
  · rw [List.append_assoc, List.drop_append_of_le_length (by omega), ← List.append_assoc, List.take_of_length_le (by simp; omega), numL_zeros]
theorem take8 (A : List UInt8) (k : Nat) (h : k + 8 ≤ A.length) : (A.drop k).take 8 = [A[k], A[k + 1], A[k + 2], A[k + 3], A[k + 4], A[k + 5], A[k + 6], A[k + 7]] := by
  apply List.ext_getElem?
  intro q
  rcases Nat.lt_or_ge q 8 with hq | hq
  · rw [List.getElem?_take_of_lt hq, List.getElem?_drop]
    rcases q with _ | _ | _ | _ | _ | _ | _ | _ | q <;> first | omega | (rw [List.getElem?_eq_getElem (by omega)]; rfl)
  · rw [List.getElem?_eq_none (by simp; omega), List.getElem?_eq_none (by simpa using hq)]
theorem absorb_step (s : St) (A : List UInt8) (k : Nat) (h : 8 * k + 8 ≤ A.length) :
    s.absorb A (k + 1) = (s.absorb A k).take (numL [A[8 * k], A[8 * k + 1], A[8 * k + 2], A[8 * k + 3], A[8 * k + 4], A[8 * k + 5], A[8 * k + 6], A[8 * k + 7]]) := by
  simp only [St.absorb]; rw [take8 A (8 * k) h]
theorem pad_snoc (l : List UInt8) (z : Nat) : (l ++ [1] ++ List.replicate (z + 1) 0).map U8 = (l ++ [1] ++ List.replicate z 0).map U8 ++ [U8 0] := by
  rw [List.replicate_succ', ← List.append_assoc, List.map_append]; rfl
theorem div256 (x : BitVec 64) : x / 256#64 = x >>> 8 := by
  apply BitVec.eq_of_toNat_eq
  rw [BitVec.toNat_udiv, BitVec.toNat_ushiftRight, Nat.shiftRight_eq_div_pow]; rfl
theorem mod256 (x : BitVec 64) : (x % 256#64).setWidth 8 = x.setWidth 8 := by
  apply BitVec.eq_of_toNat_eq
  simp only [BitVec.toNat_setWidth, BitVec.toNat_umod]
  show x.toNat % 256 % 256 = x.toNat % 256
  omega
theorem shr_shr (x : BitVec 64) (a b : Nat) : x >>> a >>> b = x >>> (a + b) := by
  rw [← BitVec.shiftRight_add]
def numH : List UInt8 → BitVec 64
  | [] => 0#64
  | b :: l => numH l * 256#64 + b.toBitVec.setWidth 64
theorem numH_eq : ∀ l, numH l = numL l
  | [] => rfl
  | b :: l => by
    simp only [numH, numL, numH_eq l]
    have h1 : numL l * 256#64 = numL l <<< 8 := by
      apply BitVec.eq_of_toNat_eq
      rw [BitVec.toNat_mul, BitVec.toNat_shiftLeft, Nat.shiftLeft_eq]; rfl
    rw [h1, BitVec.add_comm, BitVec.add_eq_or_of_and_eq_zero]
    apply BitVec.eq_of_getLsbD_eq
    intro m hm
    simp only [BitVec.getLsbD_and, BitVec.getLsbD_setWidth, BitVec.getLsbD_shiftLeft, BitVec.getLsbD_zero]
    by_cases h : m < 8
    · simp [h]
    · rw [BitVec.getLsbD_of_ge b.toBitVec m (by omega)]; simp
theorem rleft_eq (x n : BitVec 64) (h : n.toNat ≤ 64) : x <<< n.toNat ||| x >>> (64#64 - n).toNat = left x n.toNat := by
  unfold left
  have : (64#64 - n).toNat = 64 - n.toNat := by rw [BitVec.toNat_sub]; simp; omega
  rw [this]
theorem next_word (k : Nat) : BitVec.ofInt 64 ((k : Int) + 1) + 1#64 = BitVec.ofInt 64 (((k + 1 : Nat) : Int) + 1) := by
  apply BitVec.eq_of_toNat_eq
  rw [show ((k : Int) + 1) = ((k + 1 : Nat) : Int) from rfl, show (((k + 1 : Nat) : Int) + 1) = ((k + 2 : Nat) : Int) from rfl, BitVec.ofInt_natCast, BitVec.ofInt_natCast]
  simp
def hOf (l : List UInt8) : BitVec 64 := ((St.begin 1#64).bytes l).out
def hOne (x : BitVec 64) : BitVec 64 := ((St.begin 2#64).take x).out
def hTwo (x y : BitVec 64) : BitVec 64 := (((St.begin 3#64).take x).take y).out
def hWord (x : BitVec 64) (l : List UInt8) : BitVec 64 := (((St.begin 4#64).take x).bytes l).out
/-- Numbers taken in, one after the other. -/
def St.takes (s : St) (l : List (BitVec 64)) : St := l.foldl St.take s
def hMany (l : List (BitVec 64)) : BitVec 64 := (((St.begin 5#64).takes l).take (BitVec.ofNat 64 l.length)).out
def hChain (x : BitVec 64) : Nat → BitVec 64
  | 0 => x
  | n + 1 => hOne (hChain x n)
/-- A chain of whatever length; too long a one is none. -/
def hChainI (x : BitVec 64) (n : Int) : BitVec 64 := if 1 ≤ n ∧ n ≤ 1048576 then hChain x n.toNat else x
def St.stirs (s : St) : Nat → St
  | 0 => s
  | k + 1 => (s.stirs k).stir
/-- The bytes of so many blocks of a stream. -/
def St.blocks (s : St) : Nat → List UInt8
  | 0 => []
  | k + 1 => s.blocks k ++ digB (s.stirs k).out
theorem blocks_len (s : St) : ∀ k, (s.blocks k).length = 8 * k
  | 0 => rfl
  | k + 1 => by simp [St.blocks, blocks_len s k]; omega
def hStream (x : BitVec 64) (n : Nat) : List UInt8 := (((St.begin 6#64).take x).blocks ((n + 7) / 8)).take n
theorem hStream_len (x : BitVec 64) (n : Nat) : (hStream x n).length = n := by
  unfold hStream; rw [List.length_take, blocks_len]; omega
def hStreamI (x : BitVec 64) (n : Int) : List UInt8 := if 1 ≤ n ∧ n ≤ 1048576 then hStream x n.toNat else []
theorem takes_snoc (s : St) (l : List (BitVec 64)) (k : Nat) (hk : k < l.length) : (s.takes (l.take k)).take l[k] = s.takes (l.take (k + 1)) := by
  rw [List.take_succ_eq_append_getElem hk]
  simp only [St.takes, List.foldl_append, List.foldl_cons, List.foldl_nil]
theorem hChainI_two (x : BitVec 64) : hChainI x 2 = hOne (hOne x) := by
  unfold hChainI
  rw [if_pos ⟨by decide, by decide⟩]; rfl
theorem hStreamI_nine (x : BitVec 64) : (hStreamI x 9).length = 9 := by
  unfold hStreamI
  rw [if_pos ⟨by decide, by decide⟩]; exact hStream_len x 9
end Go.Eng
