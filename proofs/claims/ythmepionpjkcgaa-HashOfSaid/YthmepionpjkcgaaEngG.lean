/-
  Engine, part G: further operations.
-/
import Derived.Test.YthmepionpjkcgaaEngH
import Derived.Laws.BytesArg
namespace Go.Eng
open Go
set_option linter.unusedVariables false
set_option linter.unusedSimpArgs false
section
variable {P : Program} {n : Nat} {w0 : World} {mods : List Nat} {E : Env} {L : List Ent} {dst : Option Tmp} {T t ty : TypeId} {pos : String} {after : Array Edge} {g : Option (Nat × Bool)} {x y z : Operand} {cs ds : List Value} {pa : Option Addr}

theorem sees_own {b : Nat} {junk : List Value} {T : TypeId} {fz : Nat × Nat} (h : ⟨b, .cells (cs ++ junk).toArray T fz⟩ ∈ L) : Sees w0 mods L (some ⟨b, 0, none⟩) cs := fun w hi i v hv => by
  have hlt : i < cs.length := (List.getElem?_eq_some_iff.1 hv).1
  exact sees_all (w0 := w0) (mods := mods) h w hi i v (by rw [List.getElem?_append_left hlt]; exact hv)

theorem val_bytesStr {s e d2 : TypeId} {ba : Option Addr} {len cap : Nat} {l : List UInt8} (hs : P.underlying s = some (.slice e)) (he : P.underlying e = some (.int .u8)) (hd : P.underlying d2 = some .string) (hx : Env.ev E x = some (.slice ba len cap))
    (hl : l.length = len) (hsee : Sees w0 mods L ba (l.map U8)) : Val P n w0 mods E L ⟨dst, .convert s d2 x, T, pos, after, g⟩ (.string ⟨l.toArray⟩) := fun a w hf hi => by
  subst hl
  have hat := hsee w hi
  cases ba with
  | none =>
    have hnil : l = [] := by
      cases l with
      | nil => rfl
      | cons b l =>
        obtain ⟨_, h, _⟩ := hat 0 (U8 b) rfl
        cases h
    subst hnil
    simp only [execOp, hf.eval hx, Sem.run_bind, run_convert_bytes_nil w s e hs he 0 cap d2 hd, Result.andThen_ok, List.length_nil]
    rfl
  | some ad =>
    have hrun := run_convert_bytes_back w s d2 e ad cap l hs he hd (fun j hj => by
      obtain ⟨a', h1, h2⟩ := hat j (U8 l[j]) (by simp [hj])
      cases h1
      exact h2)
    simp only [execOp, hf.eval hx, Sem.run_bind, hrun, Result.andThen_ok]
    rfl
theorem str_eq (l m : List UInt8) : (ByteArray.mk l.toArray = ByteArray.mk m.toArray) ↔ l = m :=
  ⟨fun h => by have := congrArg (fun b : ByteArray => b.data.toList) h; simpa using this, fun h => by rw [h]⟩
theorem hChain_add (x : BitVec 64) (a : Nat) : ∀ b, hChain (hChain x a) b = hChain x (a + b)
  | 0 => rfl
  | b + 1 => by show hOne (hChain (hChain x a) b) = hOne (hChain x (a + b)); rw [hChain_add x a b]
theorem hChainI_nat (x : BitVec 64) (a : Nat) (h : a ≤ 1048576) : hChainI x (a : Int) = hChain x a := by
  unfold hChainI
  split
  · rw [Int.toNat_natCast]
  · rw [show a = 0 from by omega]; rfl
theorem hChainI_add (x : BitVec 64) (a b : Nat) (ha : a < 300) (hb : b < 300) : hChainI (hChainI x (a : Int)) (b : Int) = hChainI x ((a : Int) + (b : Int)) := by
  rw [hChainI_nat _ _ (by omega), hChainI_nat _ _ (by omega), show ((a : Int) + (b : Int)) = ((a + b : Nat) : Int) from rfl, hChainI_nat _ _ (by omega), hChain_add]
theorem hChainI_succ (x : BitVec 64) (a : Nat) (ha : a < 300) : hChainI x ((a : Int) + 1) = hOne (hChainI x (a : Int)) := by
  rw [show ((a : Int) + 1) = ((a + 1 : Nat) : Int) from rfl, hChainI_nat _ _ (by omega), hChainI_nat _ _ (by omega)]; rfl
theorem hChainI_out (x : BitVec 64) (n : Int) (h : n < 1 ∨ 1048576 < n) : hChainI x n = x := if_neg (by omega)
theorem flat_snoc {α : Type} (f : α → List Value) (l : List α) (k : Nat) (hk : k < l.length) : (l.take (k + 1)).flatMap f = (l.take k).flatMap f ++ f l[k] := by
  rw [List.take_succ_eq_append_getElem hk, List.flatMap_append]; simp
theorem digL_get (x : BitVec 64) (j : Nat) (h : j < 8) : ((digL x).drop (0 + j * 1))[0]? = some (U8 (bt x j)) := by
  match j, h with
  | 0, _ => rfl
  | 1, _ => rfl
  | 2, _ => rfl
  | 3, _ => rfl
  | 4, _ => rfl
  | 5, _ => rfl
  | 6, _ => rfl
  | 7, _ => rfl
theorem digB_snoc (x : BitVec 64) (j : Nat) (h : j < 8) : (digB x).take (j + 1) = (digB x).take j ++ [bt x j] := by
  match j, h with
  | 0, _ => rfl
  | 1, _ => rfl
  | 2, _ => rfl
  | 3, _ => rfl
  | 4, _ => rfl
  | 5, _ => rfl
  | 6, _ => rfl
  | 7, _ => rfl
theorem blocks_take (s : St) (k m j : Nat) (h1 : 8 * k + j ≤ m) (h2 : j = 8 ∨ 8 * k + j = m) (h3 : j ≤ 8) :
    (s.blocks (k + 1)).take m = s.blocks k ++ (digB (s.stirs k).out).take j ∧ min (8 * (k + 1)) m = 8 * k + j := by
  refine ⟨?_, by omega⟩
  rw [St.blocks, List.take_append, blocks_len, List.take_of_length_le (by rw [blocks_len]; omega)]
  congr 1
  rcases h2 with h | h
  · subst h
    rw [List.take_of_length_le (by simp; omega), List.take_of_length_le (by simp)]
  · rw [show m - 8 * k = j from by omega]
end
end Go.Eng
