/-
  Engine, part J: contracts that turn memory that they are given; lists of blocks taken out of longer ones.
-/
import Derived.Test.YthmepionpjkcgaaEngG
namespace Go.Eng
open Go
set_option linter.unusedVariables false
set_option linter.unusedSimpArgs false
section
variable {P : Program} {n : Nat} {w0 : World} {mods : List Nat} {E : Env} {L : List Ent} {dst : Option Tmp} {T t ty : TypeId} {pos : String} {after : Array Edge} {g : Option (Nat × Bool)} {x y z : Operand} {cs ds : List Value} {pa : Option Addr}

/-- These entries, taken out of a list. -/
inductive TakeL : List Ent → List Ent → List Ent → Prop
  | here {N : List Ent} : TakeL N N []
  | app {N R : List Ent} : TakeL (N ++ R) N R
  | tail {e : Ent} {R N R' : List Ent} : TakeL R N R' → TakeL (e :: R) N (e :: R')
  | appr {M R N R' : List Ent} : TakeL R N R' → TakeL (M ++ R) N (M ++ R')
  | cons {e : Ent} {R S N R' : List Ent} : Take R e S → TakeL S N R' → TakeL R (e :: N) R'
  | nil {R : List Ent} : TakeL R [] R
theorem TakeL.perm {L N R : List Ent} (h : TakeL L N R) : List.Perm L (N ++ R) := by
  induction h with
  | here => simp
  | app => exact .refl _
  | tail _ ih => exact (ih.cons _).trans List.perm_middle.symm
  | @appr M R N R' _ ih =>
    refine (ih.append_left M).trans ?_
    rw [← List.append_assoc, ← List.append_assoc]
    exact (List.perm_append_comm (l₁ := M) (l₂ := N)).append_right R'
  | cons h1 _ ih => exact h1.perm.trans (ih.cons _)
  | nil => exact .refl _

/-- A contract that is given some blocks, turns them, and hands back others; 's' is whatever its answer hangs on. -/
def Turns {σ : Type} (P : Program) (f : FuncId) (args : Array Value) (Pre : World → Prop) (L0 : List Ent) (I : σ → Prop) (v : σ → Value) (N : σ → List Ent) : Prop := Spec P f args Pre L0 fun r L' => ∃ s, I s ∧ r = v s ∧ L' = N s
theorem gs_turns {σ : Type} {ops : List Oper} {Q : Exit → Act → World → Prop} {K : Act → World → Prop} {o : Oper} {d : Nat} {f : FuncId} {args : Array Value} {Pre : World → Prop} {L0 R : List Ent} {I : σ → Prop} {v : σ → Value} {N : σ → List Ent} (he : Enters P n w0 mods E L o f args) (hs : Turns P f args Pre L0 I v N)
    (hw : Env.wants E ops o.guard = some true) (hd : o.dst = some d) (hn : Nat.ble (d + 1) n = true) (hp : TakeL L L0 R) (hpre : ∀ w, Inv w0 mods L w → Pre w)
    (h : ∀ s, I s → GX n w0 mods K ((d, v s) :: E) (N s ++ R)) : GX n w0 mods (stepOp P ops Q o K) E L :=
  gs_call he hs hw hd hn hp.perm hpre (fun r L' ⟨s, h1, h2, h3⟩ => by
    subst h2; subst h3
    exact h s h1)

theorem row_of_rowL {L0 R : List Ent} (h : Row w0 mods pa cs) (hm : TakeL L L0 R) : ∀ w, Inv w0 mods L w → Row w (L0.map Ent.b) pa cs := fun w hi i v hv => by
  obtain ⟨a, h1, h2⟩ := sees_row h w hi i v hv
  obtain ⟨a', h3, h4, h5⟩ := h i v hv
  rw [h1] at h3; cases h3
  refine ⟨a, h1, ?_, h2⟩
  have hb := cell_lt h5
  rw [add_block] at hb
  intro hmem
  obtain ⟨e, he, he2⟩ := List.mem_map.1 hmem
  have he3 : e ∈ L := hm.perm.mem_iff.2 (List.mem_append_left _ he)
  rcases hi.may e he3 with h6 | h6
  · exact h4 (he2 ▸ h6)
  · omega

theorem run_equal_nilSli {e : TypeId} (hk : P.underlying t = some (.slice e)) (ba : Option Addr) (len cap : Nat) (w : World) : (Op.equal t (.slice ba len cap) (.slice none 0 0)).run P w = .ok ba.isNone w := by
  unfold Op.equal Op.maxDepth
  rw [show (10000 : Nat) = 9999 + 1 from rfl]
  unfold Op.equalIn
  cases ba <;> simp [run_underlying hk]
theorem val_eqlNilSli {e : TypeId} {ba : Option Addr} {len cap : Nat} (hk : P.underlying t = some (.slice e)) (hx : Env.ev E x = some (.slice ba len cap)) (hy : Env.ev E y = some (.slice none 0 0)) : Val P n w0 mods E L ⟨dst, .binOp .eql t x y ty, T, pos, after, g⟩ (.bool ba.isNone) := fun a w hf hi => by
  have := run_equal_nilSli hk ba len cap w
  simp [execOp, hf.eval hx, hf.eval hy, eqGuard, binOp, this]
theorem row_none {α : Type} {f : α → Value} {w : World} {l : List α} (h : Row w mods none (l.map f)) : l = [] := by
  cases l with
  | nil => rfl
  | cons a l =>
    obtain ⟨_, h1, _⟩ := h 0 (f a) rfl
    cases h1
/-- A row of bytes inside a row: where it lies, its length and capacity, its bytes. -/
abbrev Piece := Option Addr × Nat × Nat × List UInt8
@[reducible] def Piece.v (p : Piece) : Value := .slice p.1 p.2.1 p.2.2.1
def joined (l : List Piece) : List UInt8 := l.flatMap (·.2.2.2)
theorem joined_snoc (l : List Piece) (k : Nat) (hk : k < l.length) : joined (l.take (k + 1)) = joined (l.take k) ++ l[k].2.2.2 := by
  unfold joined
  rw [List.take_succ_eq_append_getElem hk, List.flatMap_append]; simp
theorem emod_len (i : Int) (n : Nat) : ∃ k : Nat, i % ((n : Int) + 1) = (k : Int) ∧ k ≤ n := by
  have h1 := Int.emod_nonneg i (show ((n : Int) + 1) ≠ 0 by omega)
  have h2 := Int.emod_lt_of_pos i (show (0 : Int) < (n : Int) + 1 by omega)
  exact ⟨(i % ((n : Int) + 1)).toNat, by omega, by omega⟩
theorem dec_swap (l r : List UInt8) : (decide (r = l) != decide (l = r)) = false := by
  by_cases h : l = r
  · subst h; simp
  · rw [decide_eq_false h, decide_eq_false (fun e => h e.symm)]; rfl
theorem dec_more (l m : List UInt8) (q : Nat) (h : m.length = q) : (decide (l ++ m = l) == decide ((q : Int) = 0)) = true := by
  subst h
  cases m with
  | nil => simp
  | cons a m => simp; omega
end
end Go.Eng
