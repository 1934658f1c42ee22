/- Plain laws of chapter 8: boxes and commitments. No condition but those stated. -/
import Derived.Test.YthmepionpjkcgaaEngG
namespace Go.Eng
open Go
def wSalt : List UInt8 := [115, 97, 108, 116]
def wCheck : List UInt8 := [99, 104, 101, 99, 107]
def wBox : List UInt8 := [98, 111, 120]
def commitW (s : BitVec 64) (v : List UInt8) : BitVec 64 := if v.length ≤ 65536 then hTwo (hWord s wSalt) (hOf v) else 0#64
def checkW (k : BitVec 64) (p : List UInt8) : BitVec 64 := hTwo (hWord k wCheck) (hOf p)
def boxS (k w : BitVec 64) (n : Nat) : List UInt8 := hStreamI (hTwo (hWord k wBox) w) (n : Int)
def mixL (k w : BitVec 64) (b : List UInt8) : List UInt8 := List.zipWith (· ^^^ ·) b (boxS k w b.length)
theorem boxS_len (k w : BitVec 64) (n : Nat) (h : n ≤ 1048576) : (boxS k w n).length = n := by
  unfold boxS; rw [hStreamI_len]; split <;> omega
theorem mix_len (k w : BitVec 64) (b : List UInt8) (h : b.length ≤ 1048576) : (mixL k w b).length = b.length := by
  unfold mixL; rw [List.length_zipWith, boxS_len k w _ h, Nat.min_self]
theorem zip_snoc (b s : List UInt8) (k : Nat) (h1 : k < b.length) (h2 : k < s.length) : (List.zipWith (· ^^^ ·) b s).take (k + 1) = (List.zipWith (· ^^^ ·) b s).take k ++ [b[k] ^^^ s[k]] := by
  rw [List.take_succ_eq_append_getElem (by rw [List.length_zipWith]; omega), List.getElem_zipWith]
theorem zip_zip : ∀ (b s : List UInt8), b.length ≤ s.length → List.zipWith (· ^^^ ·) (List.zipWith (· ^^^ ·) b s) s = b
  | [], _, _ => by simp
  | x :: b, [], h => by simp at h
  | x :: b, y :: s, h => by
    rw [List.zipWith_cons_cons, List.zipWith_cons_cons, zip_zip b s (by simpa using h)]
    congr 1
    rw [UInt8.xor_assoc, UInt8.xor_self, UInt8.xor_zero]
theorem mix_mix (k w : BitVec 64) (b : List UInt8) (h : b.length ≤ 1048576) : mixL k w (mixL k w b) = b := by
  unfold mixL
  rw [List.length_zipWith, boxS_len k w _ h, Nat.min_self]
  exact zip_zip b _ (by rw [boxS_len k w _ h]; exact Nat.le_refl _)
def sealL (k : BitVec 64) (p : List UInt8) : List UInt8 := if p.length ≤ 65536 then digB (checkW k p) ++ mixL k (checkW k p) p else []
theorem seal_len (k : BitVec 64) (p : List UInt8) (h : p.length ≤ 65536) : (sealL k p).length = p.length + 8 := by
  unfold sealL; rw [if_pos h, List.length_append, mix_len _ _ _ (by omega)]; show 8 + p.length = _; omega
/-- What a box opens to: its word, what comes out. -/
def boxW (b : List UInt8) : BitVec 64 := numL (b.take 8)
def boxP (k : BitVec 64) (b : List UInt8) : List UInt8 := mixL k (boxW b) (b.drop 8)
def openE (k : BitVec 64) (b : List UInt8) : Int := if b.length < 8 then 4 else if 65544 < b.length then 2 else if checkW k (boxP k b) = boxW b then 0 else 29
def openL (k : BitVec 64) (b : List UInt8) : List UInt8 := if openE k b = 0 then boxP k b else []
theorem boxW_seal (k : BitVec 64) (p : List UInt8) (h : p.length ≤ 65536) : boxW (sealL k p) = checkW k p := by
  unfold boxW sealL; rw [if_pos h]; exact numL_dig _
theorem boxP_seal (k : BitVec 64) (p : List UInt8) (h : p.length ≤ 65536) : boxP k (sealL k p) = p := by
  unfold boxP; rw [boxW_seal k p h]
  unfold sealL; rw [if_pos h]; exact mix_mix _ _ _ (by omega)
theorem openE_seal (k : BitVec 64) (p : List UInt8) (h : p.length ≤ 65536) : openE k (sealL k p) = 0 := by
  unfold openE
  rw [if_neg (by rw [seal_len k p h]; omega), if_neg (by rw [seal_len k p h]; omega), boxP_seal k p h, boxW_seal k p h, if_pos rfl]
theorem openL_seal (k : BitVec 64) (p : List UInt8) (h : p.length ≤ 65536) : openL k (sealL k p) = p := by
  unfold openL; rw [if_pos (openE_seal k p h), boxP_seal k p h]
theorem openL_len (k : BitVec 64) (b : List UInt8) : (openL k b).length ≤ b.length := by
  unfold openL; split
  · unfold boxP mixL; rw [List.length_zipWith, List.length_drop]; omega
  · exact Nat.zero_le _
end Go.Eng
