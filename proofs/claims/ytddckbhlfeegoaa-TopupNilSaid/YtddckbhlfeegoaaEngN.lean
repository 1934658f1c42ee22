/- Plain laws of chapter 8: boxes and commitments. No condition but those stated. -/
import Derived.Test.YtddckbhlfeegoaaEngP
namespace Go.Eng
open Go
set_option linter.unusedVariables false
def wSalt : List UInt8 := [115, 97, 108, 116]
def wCheck : List UInt8 := [99, 104, 101, 99, 107]
def wBox : List UInt8 := [98, 111, 120]
def commitW (s : BitVec 64) (v : List UInt8) : BitVec 64 := if v.length ≤ 65536 then hTwo (hWord s wSalt) (hOf v) else 0#64
def checkW (k : BitVec 64) (p : List UInt8) : BitVec 64 := hTwo (hWord k wCheck) (hOf p)
def boxS (k w : BitVec 64) (n : Nat) : List UInt8 := hStreamI (hTwo (hWord k wBox) w) (n : Int)
def mixL (k w : BitVec 64) (b : List UInt8) : List UInt8 := List.zipWith (· ^^^ ·) b (boxS k w b.length)
theorem boxS_len (k w : BitVec 64) (n : Nat) (h : n ≤ 1048576) : (boxS k w n).length = n := by
  unfold boxS; rw [hStreamI_len]; split <;> omega
theorem mix_len (k w : BitVec 64) (b : List UInt8) (h : b.length ≤ 1048576) : (mixL k w b).length = b.length := by
  unfold mixL; rw [List.length_zipWith, boxS_len k w _ h, Nat.min_self]
theorem zip_snoc (b s : List UInt8) (k : Nat) (h1 : k < b.length) (h2 : k < s.length) : (List.zipWith (· ^^^ ·) b s).take (k + 1) = (List.zipWith (· ^^^ ·) b s).take k ++ [b[k] ^^^ s[k]] := by
  rw [List.take_succ_eq_append_getElem (by rw [List.length_zipWith]; omega), List.getElem_zipWith]
theorem zip_zip : ∀ (b s : List UInt8), b.length ≤ s.length → List.zipWith (· ^^^ ·) (List.zipWith (· ^^^ ·) b s) s = b
  | [], _, _ => by simp
  | x :: b, [], h => by simp at h
  | x :: b, y :: s, h => by
    rw [List.zipWith_cons_cons, List.zipWith_cons_cons, zip_zip b s (by simpa using h)]
    congr 1
    rw [UInt8.xor_assoc, UInt8.xor_self, UInt8.xor_zero]
theorem mix_mix (k w : BitVec 64) (b : List UInt8) (h : b.length ≤ 1048576) : mixL k w (mixL k w b) = b := by
  unfold mixL
  rw [List.length_zipWith, boxS_len k w _ h, Nat.min_self]
  exact zip_zip b _ (by rw [boxS_len k w _ h]; exact Nat.le_refl _)
def sealL (k : BitVec 64) (p : List UInt8) : List UInt8 := if p.length ≤ 65536 then digB (checkW k p) ++ mixL k (checkW k p) p else []
theorem seal_len (k : BitVec 64) (p : List UInt8) (h : p.length ≤ 65536) : (sealL k p).length = p.length + 8 := by
  unfold sealL; rw [if_pos h, List.length_append, mix_len _ _ _ (by omega)]; show 8 + p.length = _; omega
/-- What a box opens to: its word, what comes out. -/
def boxW (b : List UInt8) : BitVec 64 := numL (b.take 8)
def boxP (k : BitVec 64) (b : List UInt8) : List UInt8 := mixL k (boxW b) (b.drop 8)
def openE (k : BitVec 64) (b : List UInt8) : Int := if b.length < 8 then 4 else if 65544 < b.length then 2 else if checkW k (boxP k b) = boxW b then 0 else 29
def openL (k : BitVec 64) (b : List UInt8) : List UInt8 := if openE k b = 0 then boxP k b else []
theorem boxW_seal (k : BitVec 64) (p : List UInt8) (h : p.length ≤ 65536) : boxW (sealL k p) = checkW k p := by
  unfold boxW sealL; rw [if_pos h]; exact numL_dig _
theorem boxP_seal (k : BitVec 64) (p : List UInt8) (h : p.length ≤ 65536) : boxP k (sealL k p) = p := by
  unfold boxP; rw [boxW_seal k p h]
  unfold sealL; rw [if_pos h]; exact mix_mix _ _ _ (by omega)
theorem openE_seal (k : BitVec 64) (p : List UInt8) (h : p.length ≤ 65536) : openE k (sealL k p) = 0 := by
  unfold openE
  rw [if_neg (by rw [seal_len k p h]; omega), if_neg (by rw [seal_len k p h]; omega), boxP_seal k p h, boxW_seal k p h, if_pos rfl]
theorem openL_seal (k : BitVec 64) (p : List UInt8) (h : p.length ≤ 65536) : openL k (sealL k p) = p := by
  unfold openL; rw [if_pos (openE_seal k p h), boxP_seal k p h]
theorem openL_len (k : BitVec 64) (b : List UInt8) : (openL k b).length ≤ b.length := by
  unfold openL; split
  · unfold boxP mixL; rw [List.length_zipWith, List.length_drop]; omega
  · exact Nat.zero_le _
theorem box_cells (l : List UInt8) (h : 8 ≤ l.length) : digL (boxW l) = [U8 (l[0]'(by omega)), U8 (l[1]'(by omega)), U8 (l[2]'(by omega)), U8 (l[3]'(by omega)), U8 (l[4]'(by omega)), U8 (l[5]'(by omega)), U8 (l[6]'(by omega)), U8 (l[7]'(by omega))] := by
  exact shown_cells l 0 (by omega)
/-- The first k bytes mixed, zeros behind. -/
def mixK (m : List UInt8) (n k : Nat) : List UInt8 := m.take k ++ List.replicate (n - k) 0
theorem mixK_len (m : List UInt8) (n k : Nat) (h : m.length = n) (hk : k ≤ n) : (mixK m n k).length = n := by
  unfold mixK; rw [List.length_append, List.length_take, List.length_replicate]; omega
theorem mixK_zero (m : List UInt8) (n : Nat) : (mixK m n 0).map U8 = List.replicate n (.int .u8 0) := by
  unfold mixK; rw [List.take_zero, List.nil_append, List.map_replicate, Nat.sub_zero]; rfl
theorem mixK_full (m : List UInt8) (n : Nat) (h : m.length = n) : mixK m n n = m := by
  unfold mixK; rw [List.take_of_length_le (by omega), Nat.sub_self]; simp
theorem mixK_set (m : List UInt8) (n k : Nat) (h : m.length = n) (hk : k < n) (v : UInt8) (hv : v = m[k]) : ((mixK m n k).map U8).set k (U8 v) = (mixK m n (k + 1)).map U8 := by
  subst hv
  unfold mixK
  have hl : (m.take k).length = k := by rw [List.length_take]; omega
  rw [List.map_append, List.set_append_right _ _ (by rw [List.length_map, hl]; exact Nat.le_refl _), List.length_map, hl, Nat.sub_self, show n - k = (n - (k + 1)) + 1 by omega, List.replicate_succ, List.map_cons, List.set_cons_zero, List.take_succ_eq_append_getElem (by omega)]
  simp only [List.map_append, List.map_cons, List.append_assoc, List.cons_append, List.nil_append]
theorem mix_at (key w : BitVec 64) (b : List UInt8) (k : Nat) (hk : k < b.length) (hs : k < (boxS key w b.length).length) (hm : k < (mixL key w b).length) : b[k] ^^^ (boxS key w b.length)[k] = (mixL key w b)[k] := by
  exact (List.getElem_zipWith (f := (· ^^^ ·)) (l := b) (l' := boxS key w b.length) (i := k) (h := hm)).symm
theorem mix_snoc (key w : BitVec 64) (b : List UInt8) (k : Nat) (hk : k < b.length) (hs : k < (boxS key w b.length).length) (hm : k < (mixL key w b).length) : (mixL key w b).take (k + 1) = (mixL key w b).take k ++ [b[k] ^^^ (boxS key w b.length)[k]] := by
  rw [List.take_succ_eq_append_getElem hm, mix_at key w b k hk hs hm]
theorem openE_short (k : BitVec 64) (b : List UInt8) (h : b.length < 8) : openE k b = 4 ∧ openL k b = [] := by
  have e : openE k b = 4 := if_pos h
  exact ⟨e, by unfold openL; rw [e]; rfl⟩
theorem openE_long (k : BitVec 64) (b : List UInt8) (h : 65544 < b.length) : openE k b = 2 ∧ openL k b = [] := by
  have e : openE k b = 2 := by unfold openE; rw [if_neg (by omega), if_pos h]
  exact ⟨e, by unfold openL; rw [e]; rfl⟩
theorem openE_bad (k : BitVec 64) (b : List UInt8) (h1 : ¬ b.length < 8) (h2 : ¬ 65544 < b.length) (h : ¬ checkW k (boxP k b) = boxW b) : openE k b = 29 ∧ openL k b = [] := by
  have e : openE k b = 29 := by unfold openE; rw [if_neg h1, if_neg h2, if_neg h]
  exact ⟨e, by unfold openL; rw [e]; rfl⟩
theorem openE_good (k : BitVec 64) (b : List UInt8) (h1 : ¬ b.length < 8) (h2 : ¬ 65544 < b.length) (h : checkW k (boxP k b) = boxW b) : openE k b = 0 ∧ openL k b = boxP k b := by
  have e : openE k b = 0 := by unfold openE; rw [if_neg h1, if_neg h2, if_pos h]
  exact ⟨e, by unfold openL; rw [if_pos e]⟩
theorem box_len (k : BitVec 64) (b : List UInt8) (h2 : b.length ≤ 65544) : (boxP k b).length = b.length - 8 := by
  unfold boxP; rw [mix_len _ _ _ (by rw [List.length_drop]; omega), List.length_drop]
theorem openE_one (k : BitVec 64) (b : List UInt8) : openE k b = 4 ∨ openE k b = 2 ∨ openE k b = 0 ∨ openE k b = 29 := by
  unfold openE; split
  · exact .inl rfl
  · split
    · exact .inr (.inl rfl)
    · split
      · exact .inr (.inr (.inl rfl))
      · exact .inr (.inr (.inr rfl))
theorem open_same (w c : BitVec 64) (l : List UInt8) (h : l.length ≤ 65536) : (decide (l.length ≤ 65536 ∧ w = c) == decide (c = w)) = true := by
  by_cases e : w = c
  · subst e; simp [h]
  · have : ¬ c = w := fun x => e x.symm
    simp [e, this]
theorem u8_of (b : Int) : ∃ v : UInt8, IntKind.u8.wrap b = (v.toNat : Int) := by
  refine ⟨UInt8.ofNat (b % 256).toNat, ?_⟩
  rw [wrap_u8]
  simp; omega
theorem u8_zero (v : UInt8) (h : (v.toNat : Int) = 0) : v = 0 := UInt8.toNat_inj.1 (by simp; omega)
theorem set_same (l : List UInt8) (j : Nat) (hj : j < l.length) (v : UInt8) (hv : v = 0) : l.set j (l[j] + v) = l := by
  subst hv; rw [UInt8.add_zero, List.set_getElem_self]
theorem openE_not2 (k : BitVec 64) (b : List UInt8) (h : b.length ≤ 65544) : openE k b ≠ 2 := by
  unfold openE; split
  · decide
  · rw [if_neg (by omega)]; split <;> decide
theorem and_seven (m : Int) : ∃ r : Nat, Op.intBits .and .i64 m 7 = pure (I64 (r : Int)) ∧ r ≤ 7 := by
  have hr : (BitVec.ofInt 64 m &&& BitVec.ofInt 64 7).toNat ≤ 7 := by
    rw [BitVec.toNat_and]
    exact Nat.and_le_right
  refine ⟨(BitVec.ofInt 64 m &&& BitVec.ofInt 64 7).toNat, ?_, hr⟩
  show pure (Value.int .i64 (IntKind.i64.wrap ((BitVec.ofInt 64 m &&& BitVec.ofInt 64 7).toNat : Int))) = _
  rw [wrap_i64 (by omega) (by omega)]
section
variable {P : Program} {n : Nat} {w0 : World} {mods : List Nat} {E : Env} {L : List Ent} {dst : Option Tmp} {T t ty : TypeId} {pos : String} {after : Array Edge} {g : Option (Nat × Bool)} {x y z : Operand}
theorem val_andK {i j : Int} {r : Nat} (hx : Env.ev E x = some (I64 i)) (hy : Env.ev E y = some (I64 j)) (h : Op.intBits .and .i64 i j = pure (I64 (r : Int))) : Val P n w0 mods E L ⟨dst, .binOp .and t x y ty, T, pos, after, g⟩ (I64 (r : Int)) := fun a w hf _ => by
  simp [execOp, hf.eval hx, hf.eval hy, eqGuard_int, binOp, h]
theorem val_neqS {s u : ByteArray} (hx : Env.ev E x = some (.string s)) (hy : Env.ev E y = some (.string u)) : Val P n w0 mods E L ⟨dst, .binOp .neq t x y ty, T, pos, after, g⟩ (.bool (decide (¬ s = u))) := fun a w hf hi => by
  have : (s.toList == u.toList) = decide (s = u) := by
    rw [Bool.eq_iff_iff]; simp
    constructor
    · intro h
      have : s.data = u.data := by
        apply Array.ext'
        simpa [ByteArray.toList_eq] using h
      exact ByteArray.ext this
    · intro h; rw [h]
  simp [execOp, hf.eval hx, hf.eval hy, eqGuard, binOp, Op.stringOp, this]

end
end Go.Eng
