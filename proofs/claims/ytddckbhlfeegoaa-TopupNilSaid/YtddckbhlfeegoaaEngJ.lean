/-
  Engine, part J: contracts that turn memory that they are given; lists of blocks taken out of longer ones.
-/
import Derived.Test.YtddckbhlfeegoaaEngG
namespace Go.Eng
open Go
set_option linter.unusedVariables false
set_option linter.unusedSimpArgs false
section
variable {P : Program} {n : Nat} {w0 : World} {mods : List Nat} {E : Env} {L : List Ent} {dst : Option Tmp} {T t ty : TypeId} {pos : String} {after : Array Edge} {g : Option (Nat × Bool)} {x y z : Operand} {cs ds : List Value} {pa : Option Addr}

/-- These entries, taken out of a list. -/
inductive TakeL : List Ent → List Ent → List Ent → Prop
  | here {N : List Ent} : TakeL N N []
  | app {N R : List Ent} : TakeL (N ++ R) N R
  | tail {e : Ent} {R N R' : List Ent} : TakeL R N R' → TakeL (e :: R) N (e :: R')
  | appr {M R N R' : List Ent} : TakeL R N R' → TakeL (M ++ R) N (M ++ R')
  | cons {e : Ent} {R S N R' : List Ent} : Take R e S → TakeL S N R' → TakeL R (e :: N) R'
  | nil {R : List Ent} : TakeL R [] R
theorem TakeL.perm {L N R : List Ent} (h : TakeL L N R) : List.Perm L (N ++ R) := by
  induction h with
  | here => simp
  | app => exact .refl _
  | tail _ ih => exact (ih.cons _).trans List.perm_middle.symm
  | @appr M R N R' _ ih =>
    refine (ih.append_left M).trans ?_
    rw [← List.append_assoc, ← List.append_assoc]
    exact (List.perm_append_comm (l₁ := M) (l₂ := N)).append_right R'
  | cons h1 _ ih => exact h1.perm.trans (ih.cons _)
  | nil => exact .refl _

/-- A contract that is given some blocks, turns them, and hands back others; 's' is whatever its answer hangs on. -/
def Turns {σ : Type} (P : Program) (f : FuncId) (args : Array Value) (Pre : World → Prop) (L0 : List Ent) (I : σ → Prop) (v : σ → Value) (N : σ → List Ent) : Prop := Spec P f args Pre L0 fun r L' => ∃ s, I s ∧ r = v s ∧ L' = N s
theorem gs_turns {σ : Type} {ops : List Oper} {Q : Exit → Act → World → Prop} {K : Act → World → Prop} {o : Oper} {d : Nat} {f : FuncId} {args : Array Value} {Pre : World → Prop} {L0 R : List Ent} {I : σ → Prop} {v : σ → Value} {N : σ → List Ent} (he : Enters P n w0 mods E L o f args) (hs : Turns P f args Pre L0 I v N)
    (hw : Env.wants E ops o.guard = some true) (hd : o.dst = some d) (hn : Nat.ble (d + 1) n = true) (hp : TakeL L L0 R) (hpre : ∀ w, Inv w0 mods L w → Pre w)
    (h : ∀ s, I s → GX n w0 mods K ((d, v s) :: E) (N s ++ R)) : GX n w0 mods (stepOp P ops Q o K) E L :=
  gs_call he hs hw hd hn hp.perm hpre (fun r L' ⟨s, h1, h2, h3⟩ => by
    subst h2; subst h3
    exact h s h1)

theorem row_of_rowL {L0 R : List Ent} (h : Row w0 mods pa cs) (hm : TakeL L L0 R) : ∀ w, Inv w0 mods L w → Row w (L0.map Ent.b) pa cs := fun w hi i v hv => by
  obtain ⟨a, h1, h2⟩ := sees_row h w hi i v hv
  obtain ⟨a', h3, h4, h5⟩ := h i v hv
  rw [h1] at h3; cases h3
  refine ⟨a, h1, ?_, h2⟩
  have hb := cell_lt h5
  rw [add_block] at hb
  intro hmem
  obtain ⟨e, he, he2⟩ := List.mem_map.1 hmem
  have he3 : e ∈ L := hm.perm.mem_iff.2 (List.mem_append_left _ he)
  rcases hi.may e he3 with h6 | h6
  · exact h4 (he2 ▸ h6)
  · omega

theorem run_equal_nilSli {e : TypeId} (hk : P.underlying t = some (.slice e)) (ba : Option Addr) (len cap : Nat) (w : World) : (Op.equal t (.slice ba len cap) (.slice none 0 0)).run P w = .ok ba.isNone w := by
  unfold Op.equal Op.maxDepth
  rw [show (10000 : Nat) = 9999 + 1 from rfl]
  unfold Op.equalIn
  cases ba <;> simp [run_underlying hk]
theorem val_eqlNilSli {e : TypeId} {ba : Option Addr} {len cap : Nat} (hk : P.underlying t = some (.slice e)) (hx : Env.ev E x = some (.slice ba len cap)) (hy : Env.ev E y = some (.slice none 0 0)) : Val P n w0 mods E L ⟨dst, .binOp .eql t x y ty, T, pos, after, g⟩ (.bool ba.isNone) := fun a w hf hi => by
  have := run_equal_nilSli hk ba len cap w
  simp [execOp, hf.eval hx, hf.eval hy, eqGuard, binOp, this]
theorem row_none {α : Type} {f : α → Value} {w : World} {l : List α} (h : Row w mods none (l.map f)) : l = [] := by
  cases l with
  | nil => rfl
  | cons a l =>
    obtain ⟨_, h1, _⟩ := h 0 (f a) rfl
    cases h1
/-- A row of bytes inside a row: where it lies, its length and capacity, its bytes. -/
abbrev Piece := Option Addr × Nat × Nat × List UInt8
@[reducible] def Piece.v (p : Piece) : Value := .slice p.1 p.2.1 p.2.2.1
def joined (l : List Piece) : List UInt8 := l.flatMap (·.2.2.2)
theorem joined_snoc (l : List Piece) (k : Nat) (hk : k < l.length) : joined (l.take (k + 1)) = joined (l.take k) ++ l[k].2.2.2 := by
  unfold joined
  rw [List.take_succ_eq_append_getElem hk, List.flatMap_append]; simp
theorem emod_len (i : Int) (n : Nat) : ∃ k : Nat, i % ((n : Int) + 1) = (k : Int) ∧ k ≤ n := by
  have h1 := Int.emod_nonneg i (show ((n : Int) + 1) ≠ 0 by omega)
  have h2 := Int.emod_lt_of_pos i (show (0 : Int) < (n : Int) + 1 by omega)
  exact ⟨(i % ((n : Int) + 1)).toNat, by omega, by omega⟩
theorem dec_swap (l r : List UInt8) : (decide (r = l) != decide (l = r)) = false := by
  by_cases h : l = r
  · subst h; simp
  · rw [decide_eq_false h, decide_eq_false (fun e => h e.symm)]; rfl
theorem dec_more (l m : List UInt8) (q : Nat) (h : m.length = q) : (decide (l ++ m = l) == decide ((q : Int) = 0)) = true := by
  subst h
  cases m with
  | nil => simp
  | cons a m => simp; omega
/-- A cell of a slice of the call's own, written. -/
theorem gs_storeOwn {ops : List Oper} {Q : Exit → Act → World → Prop} {K : Act → World → Prop} {L' : List Ent → List Ent} {m e nn c : Nat} {ba : Option Addr} {xs : List Value} {N : List Ent} {v : Value} (hk : (P.info? t).map (·.size) = some 1)
    (hx : Env.ev E x = some (.pointer (ba.map (·.add (m * 1))))) (hy : Env.ev E y = some v) (hv : v.cells = [v].toArray) (h1 : v.oneCell' = true) (hw : Env.wants E ops g = some true) (hown : Own e 1 ba nn c xs N) (hm : m < xs.length) (hr : ∀ N', ReplT L N N' (L' N'))
    (h : ∀ N', Own e 1 ba nn c (xs.set m v) N' → GX n w0 mods K E (L' N')) : GX n w0 mods (stepOp P ops Q (⟨none, .store t x y, T, pos, after, g⟩) K) E L := by
  cases hown with
  | nil => simp at hm
  | @blk b n' c' xs junk hl hc hnc =>
    have hx' : Env.ev E x = some (.pointer (some ⟨b, m, none⟩)) := by rw [hx, Option.map_some, add_mk, Nat.mul_one, Nat.zero_add]
    have hnew := h [⟨b, .cells (xs.set m v ++ junk).toArray e (0, 0)⟩] (.blk (by simp [hl]) (by simpa using hc) hnc)
    obtain ⟨R, p1, p2⟩ := (hr [⟨b, .cells (xs.set m v ++ junk).toArray e (0, 0)⟩]).perm
    refine gx_perm p1 (gs_store hk hx' hy hv rfl hw (by simp [h1]) .head (by simp; omega) (cs' := xs.set m v ++ junk) ?_ (gx_perm p2.symm hnew))
    rw [splice_one _ _ _ (by simp; omega), List.set_append_left _ _ hm]

/-- What a slice of the call's own holds, for a callee that turns other blocks. -/
theorem row_of_ownL {e size nn c : Nat} {ba : Option Addr} {xs : List Value} {N L0 R S : List Ent} (hown : Own e size ba nn c xs N) (h1 : TakeL L L0 R) (h2 : TakeL R N S) : ∀ w, Inv w0 mods L w → Row w (L0.map Ent.b) ba xs := fun w hi i v hv => by
  cases hown with
  | nil => simp at hv
  | @blk b n' c' xs junk hl hc hnc =>
    have hp : List.Perm L (L0 ++ ([⟨b, .cells (xs ++ junk).toArray e (0, 0)⟩] ++ S)) := h1.perm.trans (h2.perm.append_left L0)
    have hmem : ⟨b, .cells (xs ++ junk).toArray e (0, 0)⟩ ∈ L := hp.mem_iff.2 (by simp)
    obtain ⟨a, e1, e2⟩ := sees_own (w0 := w0) (mods := mods) hmem w hi i v hv
    cases e1
    refine ⟨_, rfl, ?_, e2⟩
    have hnd : ((L0 ++ (([⟨b, .cells (xs ++ junk).toArray e (0, 0)⟩] : List Ent) ++ S)).map Ent.b).Nodup := ((hp.map _).nodup_iff).1 hi.nodup
    rw [List.map_append, List.nodup_append] at hnd
    intro hb
    exact hnd.2.2 _ hb b (by simp) rfl
theorem val_add8 {i j : UInt8} (hx : Env.ev E x = some (U8 i)) (hy : Env.ev E y = some (U8 j)) : Val P n w0 mods E L ⟨dst, .binOp .add t x y ty, T, pos, after, g⟩ (U8 (i + j)) := fun a w hf _ => by
  have : IntKind.wrap .u8 ((i.toNat : Int) + (j.toNat : Int)) = ((i + j).toNat : Int) := by
    rw [UInt8.toNat_add]
    have h : ((i.toNat : Int) + (j.toNat : Int)) = ((i.toNat + j.toNat : Nat) : Int) := rfl
    rw [h]
    simp [IntKind.wrap, IntKind.bits, IntKind.signed]
  simp [execOp, hf.eval hx, hf.eval hy, eqGuard_int, binOp, Op.intArith, this]
/-- The first k bytes, one more each. -/
def inc (k : Nat) (l : List UInt8) : List UInt8 := (l.take k).map (· + 1) ++ l.drop k
theorem inc_len (k : Nat) (l : List UInt8) : (inc k l).length = l.length := by
  unfold inc; rw [List.length_append, List.length_map, ← List.length_append, List.take_append_drop]
theorem inc_zero (l : List UInt8) : inc 0 l = l := rfl
theorem inc_get (l : List UInt8) (k : Nat) (hk : k < l.length) : (inc k l)[k]? = some l[k] := by
  have hl : ((l.take k).map (· + 1)).length = k := by rw [List.length_map, List.length_take]; omega
  unfold inc
  rw [List.getElem?_append_right (by rw [hl]; exact Nat.le_refl _), hl, Nat.sub_self, List.getElem?_drop]
  simp [hk]
theorem inc_set (l : List UInt8) (k : Nat) (hk : k < l.length) : ((inc k l).map U8).set k (U8 (l[k] + 1)) = (inc (k + 1) l).map U8 := by
  have hd : l.drop k = l[k] :: l.drop (k + 1) := List.drop_eq_getElem_cons hk
  have hl : ((l.take k).map (· + 1)).length = k := by rw [List.length_map, List.length_take]; omega
  unfold inc
  rw [hd, List.take_succ_eq_append_getElem hk, List.map_append, List.map_append, List.map_append, List.set_append_right _ _ (by rw [List.length_map, hl]; exact Nat.le_refl _), List.length_map, hl, Nat.sub_self, List.map_cons, List.set_cons_zero, List.map_append]
  simp
end
end Go.Eng
