/-
  Engine, part G: further operations.
-/
import Derived.Test.YtddckbhlfeegoaaEngH
import Derived.Laws.BytesArg
namespace Go.Eng
open Go
set_option linter.unusedVariables false
set_option linter.unusedSimpArgs false
section
variable {P : Program} {n : Nat} {w0 : World} {mods : List Nat} {E : Env} {L : List Ent} {dst : Option Tmp} {T t ty : TypeId} {pos : String} {after : Array Edge} {g : Option (Nat × Bool)} {x y z : Operand} {cs ds : List Value} {pa : Option Addr}

theorem sees_own {b : Nat} {junk : List Value} {T : TypeId} {fz : Nat × Nat} (h : ⟨b, .cells (cs ++ junk).toArray T fz⟩ ∈ L) : Sees w0 mods L (some ⟨b, 0, none⟩) cs := fun w hi i v hv => by
  have hlt : i < cs.length := (List.getElem?_eq_some_iff.1 hv).1
  exact sees_all (w0 := w0) (mods := mods) h w hi i v (by rw [List.getElem?_append_left hlt]; exact hv)

theorem val_bytesStr {s e d2 : TypeId} {ba : Option Addr} {len cap : Nat} {l : List UInt8} (hs : P.underlying s = some (.slice e)) (he : P.underlying e = some (.int .u8)) (hd : P.underlying d2 = some .string) (hx : Env.ev E x = some (.slice ba len cap))
    (hl : l.length = len) (hsee : Sees w0 mods L ba (l.map U8)) : Val P n w0 mods E L ⟨dst, .convert s d2 x, T, pos, after, g⟩ (.string ⟨l.toArray⟩) := fun a w hf hi => by
  subst hl
  have hat := hsee w hi
  cases ba with
  | none =>
    have hnil : l = [] := by
      cases l with
      | nil => rfl
      | cons b l =>
        obtain ⟨_, h, _⟩ := hat 0 (U8 b) rfl
        cases h
    subst hnil
    simp only [execOp, hf.eval hx, Sem.run_bind, run_convert_bytes_nil w s e hs he 0 cap d2 hd, Result.andThen_ok, List.length_nil]
    rfl
  | some ad =>
    have hrun := run_convert_bytes_back w s d2 e ad cap l hs he hd (fun j hj => by
      obtain ⟨a', h1, h2⟩ := hat j (U8 l[j]) (by simp [hj])
      cases h1
      exact h2)
    simp only [execOp, hf.eval hx, Sem.run_bind, hrun, Result.andThen_ok]
    rfl
theorem val_max3 {q q' q2 : IntKind} {i j k : Int} {ts : Array TypeId} (hx : Env.ev E x = some (.int q i)) (hy : Env.ev E y = some (.int q' j)) (hz : Env.ev E z = some (.int q2 k)) :
    Val P n w0 mods E L ⟨dst, .call ⟨.builtin .max, #[x, y, z], ts⟩, T, pos, after, g⟩ (.int q (if (if i < j then j else i) < k then k else (if i < j then j else i))) := fun _ w hf _ => by
  simp [execOp, resolve, invoke, builtin, Builtin.max_, Builtin.max2, hf.eval hx, hf.eval hy, hf.eval hz]
theorem rem_in (m : Int) (k : Int) (hk : 0 < k) : -k < Int.tmod m k ∧ Int.tmod m k < k := by
  rw [Int.tmod_eq_emod]
  have h1 := Int.emod_nonneg m (show k ≠ 0 by omega)
  have h2 := Int.emod_lt_of_pos m hk
  split
  · omega
  · rename_i h
    have h3 : m % k ≠ 0 := fun h4 => h (.inr (Int.dvd_of_emod_eq_zero h4))
    omega
theorem str_eq (l m : List UInt8) : (ByteArray.mk l.toArray = ByteArray.mk m.toArray) ↔ l = m :=
  ⟨fun h => by have := congrArg (fun b : ByteArray => b.data.toList) h; simpa using this, fun h => by rw [h]⟩
theorem hChain_add (x : BitVec 64) (a : Nat) : ∀ b, hChain (hChain x a) b = hChain x (a + b)
  | 0 => rfl
  | b + 1 => by show hOne (hChain (hChain x a) b) = hOne (hChain x (a + b)); rw [hChain_add x a b]
theorem hChainI_nat (x : BitVec 64) (a : Nat) (h : a ≤ 1048576) : hChainI x (a : Int) = hChain x a := by
  unfold hChainI
  split
  · rw [Int.toNat_natCast]
  · rw [show a = 0 from by omega]; rfl
theorem hChainI_add (x : BitVec 64) (a b : Nat) (ha : a < 300) (hb : b < 300) : hChainI (hChainI x (a : Int)) (b : Int) = hChainI x ((a : Int) + (b : Int)) := by
  rw [hChainI_nat _ _ (by omega), hChainI_nat _ _ (by omega), show ((a : Int) + (b : Int)) = ((a + b : Nat) : Int) from rfl, hChainI_nat _ _ (by omega), hChain_add]
theorem hChainI_succ (x : BitVec 64) (a : Nat) (ha : a < 300) : hChainI x ((a : Int) + 1) = hOne (hChainI x (a : Int)) := by
  rw [show ((a : Int) + 1) = ((a + 1 : Nat) : Int) from rfl, hChainI_nat _ _ (by omega), hChainI_nat _ _ (by omega)]; rfl
theorem hChainI_out (x : BitVec 64) (n : Int) (h : n < 1 ∨ 1048576 < n) : hChainI x n = x := if_neg (by omega)
theorem flat_snoc {α : Type} (f : α → List Value) (l : List α) (k : Nat) (hk : k < l.length) : (l.take (k + 1)).flatMap f = (l.take k).flatMap f ++ f l[k] := by
  rw [List.take_succ_eq_append_getElem hk, List.flatMap_append]; simp
theorem hStreamI_len (x : BitVec 64) (n : Int) : (hStreamI x n).length = if 1 ≤ n ∧ n ≤ 1048576 then n.toNat else 0 := by
  unfold hStreamI; split
  · exact hStream_len x _
  · rfl
theorem hStreamI_out (x : BitVec 64) (n : Int) (h : n < 1 ∨ 1048576 < n) : hStreamI x n = [] := if_neg (by omega)
theorem blocks_front (s : St) (a : Nat) : ∀ b, (s.blocks (a + b)).take (8 * a) = s.blocks a
  | 0 => List.take_of_length_le (by rw [Nat.add_zero, blocks_len]; exact Nat.le_refl _)
  | b + 1 => by
    rw [← Nat.add_assoc, St.blocks, List.take_append_of_le_length (by rw [blocks_len]; omega)]
    exact blocks_front s a b
theorem hStream_front (x : BitVec 64) (p q : Nat) (h : p ≤ q) : hStream x p = (hStream x q).take p := by
  unfold hStream
  rw [List.take_take, Nat.min_eq_left h, ← blocks_front _ ((p + 7) / 8) ((q + 7) / 8 - (p + 7) / 8), show (p + 7) / 8 + ((q + 7) / 8 - (p + 7) / 8) = (q + 7) / 8 from by omega, List.take_take, Nat.min_eq_left (by omega)]
theorem hStreamI_front (x : BitVec 64) (p q : Int) (h : p ≤ q) (hq : q ≤ 1048576) : hStreamI x p = (hStreamI x q).take (hStreamI x p).length := by
  by_cases hp : 1 ≤ p
  · unfold hStreamI
    rw [if_pos ⟨hp, by omega⟩, if_pos ⟨by omega, hq⟩, hStream_len]
    exact hStream_front x _ _ (by omega)
  · rw [hStreamI_out x p (by omega)]; rfl
theorem digL_get (x : BitVec 64) (j : Nat) (h : j < 8) : ((digL x).drop (0 + j * 1))[0]? = some (U8 (bt x j)) := by
  match j, h with
  | 0, _ => rfl
  | 1, _ => rfl
  | 2, _ => rfl
  | 3, _ => rfl
  | 4, _ => rfl
  | 5, _ => rfl
  | 6, _ => rfl
  | 7, _ => rfl
theorem digB_snoc (x : BitVec 64) (j : Nat) (h : j < 8) : (digB x).take (j + 1) = (digB x).take j ++ [bt x j] := by
  match j, h with
  | 0, _ => rfl
  | 1, _ => rfl
  | 2, _ => rfl
  | 3, _ => rfl
  | 4, _ => rfl
  | 5, _ => rfl
  | 6, _ => rfl
  | 7, _ => rfl
theorem blocks_take (s : St) (k m j : Nat) (h1 : 8 * k + j ≤ m) (h2 : j = 8 ∨ 8 * k + j = m) (h3 : j ≤ 8) :
    (s.blocks (k + 1)).take m = s.blocks k ++ (digB (s.stirs k).out).take j ∧ min (8 * (k + 1)) m = 8 * k + j := by
  refine ⟨?_, by omega⟩
  rw [St.blocks, List.take_append, blocks_len, List.take_of_length_le (by rw [blocks_len]; omega)]
  congr 1
  rcases h2 with h | h
  · subst h
    rw [List.take_of_length_le (by simp; omega), List.take_of_length_le (by simp)]
  · rw [show m - 8 * k = j from by omega]
end
end Go.Eng
