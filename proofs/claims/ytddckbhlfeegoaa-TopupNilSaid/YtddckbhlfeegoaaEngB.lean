/-
  Engine, part B: the goal's forms (an environment for the temporaries, a list of known blocks for the memory), and the rules for control.
-/
import Derived.Test.YtddckbhlfeegoaaEngA
import Derived.Scope
import Derived.Tactics
import Derived.LoopN
import Derived.Laws.World
namespace Go.Eng
open Go
set_option linter.unusedVariables false

/-! ### the temporaries -/
abbrev Env := List (Nat × Value)
def Env.find : Env → Nat → Option Value
  | [], _ => none
  | (i, v) :: E, j => bif Nat.beq i j then some v else Env.find E j
def Env.ev (E : Env) : Operand → Option Value
  | .tmp t => Env.find E t
  | .const v => some v
  | .global g => some (.pointer (some ⟨g, 0, none⟩))
  | .func f => some (.func (.func f) #[] #[])
/-- The smaller environment holds what the greater one says. -/
inductive Env.le : Env → Env → Prop
  | nil {F : Env} : Env.le [] F
  | cons {i : Nat} {v : Value} {E F : Env} : Env.find F i = some v → Env.le E F → Env.le ((i, v) :: E) F
/-- Which operations are wanted. -/
def Env.wants (E : Env) (ops : List Oper) : Option (Nat × Bool) → Option Bool
  | none => some true
  | some (j, b) => match (ops[j]?).bind (·.dst) with
    | some d => match Env.find E d with
      | some (.bool c) => some (c == b)
      | some (.tuple _) => some false
      | _ => none
    | none => none

structure Fits (n : Nat) (E : Env) (a : Act) : Prop where
  size : a.tmps.size = n
  defers : a.defers = []
  at' : ∀ i v, Env.find E i = some v → a.tmps[i]? = some v

theorem Env.find_cons (i j : Nat) (v : Value) (E : Env) : Env.find ((i, v) :: E) j = if i = j then some v else Env.find E j := by
  simp only [Env.find]
  by_cases h : i = j
  · subst h; simp
  · cases hb : Nat.beq i j with
    | false => simp [h]
    | true => exact absurd (Nat.eq_of_beq_eq_true hb) h

theorem Fits.put {n d : Nat} {E : Env} {a : Act} {v : Value} (h : Fits n E a) (hd : d < n) : Fits n ((d, v) :: E) (a.put (some d) v) := by
  refine ⟨by simp [Act.put, h.size], h.defers, fun i u hu => ?_⟩
  rw [Env.find_cons] at hu
  simp only [Act.put]
  by_cases hid : d = i
  · subst hid
    rw [if_pos rfl] at hu
    cases hu
    have : d < a.tmps.size := by rw [h.size]; exact hd
    simp [this]
  · rw [if_neg hid] at hu
    rw [Array.getElem?_setIfInBounds_ne hid]
    exact h.at' i u hu

theorem Fits.putNone {n : Nat} {E : Env} {a : Act} {v : Value} (h : Fits n E a) : Fits n E (a.put none v) := h

theorem Fits.eval {n : Nat} {E : Env} {a : Act} {x : Operand} {v : Value} (h : Fits n E a) (he : Env.ev E x = some v) : a.eval x = v := by
  cases x with
  | tmp t =>
    have := h.at' t v he
    simp [Act.eval, this]
  | const u => simp [Env.ev] at he; simp [Act.eval, he]
  | global g => simp [Env.ev] at he; simp [Act.eval, he]
  | func f => simp [Env.ev] at he; simp [Act.eval, he]

theorem Fits.le {n : Nat} {E F : Env} {a : Act} (h : Fits n F a) (hl : Env.le E F) : Fits n E a := by
  refine ⟨h.size, h.defers, ?_⟩
  induction E with
  | nil => intro i v hv; simp [Env.find] at hv
  | cons p E ih =>
    obtain ⟨j, u⟩ := p
    cases hl with
    | cons h1 h2 =>
    intro i v hv
    rw [Env.find_cons] at hv
    by_cases hji : j = i
    · subst hji; rw [if_pos rfl] at hv; cases hv; exact h.at' _ _ h1
    · rw [if_neg hji] at hv; exact ih h2 i v hv

theorem Fits.wants {n : Nat} {E : Env} {a : Act} {ops : List Oper} {o : Oper} {b : Bool} (h : Fits n E a) (hw : Env.wants E ops o.guard = some b) :
    Region.wanted o (yielded ops.toArray a.tmps) = b := by
  unfold Env.wants at hw
  unfold Region.wanted
  split at hw
  · rename_i hg; simp at hw; simp [hg, hw]
  · rename_i j c hg
    rw [hg]
    split at hw
    · rename_i d hd
      split at hw
      · rename_i u hu
        have := h.at' d _ hu
        simp at hw
        have hd' : (ops.toArray[j]?).bind (·.dst) = some d := by simpa using hd
        simp only [yielded, hd', Option.bind_some, this]
        rw [← hw]
        cases u <;> cases c <;> rfl
      · rename_i u hu
        have := h.at' d _ hu
        simp at hw
        have hd' : (ops.toArray[j]?).bind (·.dst) = some d := by simpa using hd
        simp only [yielded, hd', Option.bind_some, this]
        rw [hw]
        rfl
      · cases hw
    · cases hw

/-! ### the memory -/
structure Ent where
  b : Nat
  o : Obj

structure Inv (w0 : World) (mods : List Nat) (L : List Ent) (w : World) : Prop where
  size : w0.heap.size ≤ w.heap.size
  os : w.os = w0.os
  tape : w.tape = w0.tape
  output : w.output = w0.output
  frame : ∀ b, b < w0.heap.size → b ∉ mods → w.heap[b]? = w0.heap[b]?
  has : ∀ e ∈ L, w.heap[e.b]? = some e.o
  may : ∀ e ∈ L, e.b ∈ mods ∨ w0.heap.size ≤ e.b
  nodup : (L.map Ent.b).Nodup

section
variable {w0 w : World} {mods : List Nat} {L : List Ent}

theorem Inv.start {L : List Ent} (h : ∀ e ∈ L, w0.heap[e.b]? = some e.o) (hn : (L.map Ent.b).Nodup) : Inv w0 (L.map Ent.b) L w0 :=
  ⟨Nat.le_refl _, rfl, rfl, rfl, fun _ _ _ => rfl, h, fun e he => .inl (List.mem_map.2 ⟨e, he, rfl⟩), hn⟩

theorem Inv.drew (h : Inv w0 mods L w) (k : Nat) : Inv w0 mods L { w with drawn := k } :=
  ⟨h.size, h.os, h.tape, h.output, h.frame, h.has, h.may, h.nodup⟩

theorem Inv.lt (h : Inv w0 mods L w) {e : Ent} (he : e ∈ L) : e.b < w.heap.size := by
  rcases Nat.lt_or_ge e.b w.heap.size with h' | h'
  · exact h'
  · have := h.has e he
    rw [Array.getElem?_eq_none h'] at this
    cases this

theorem Inv.push (h : Inv w0 mods L w) (o : Obj) : Inv w0 mods (⟨w.heap.size, o⟩ :: L) { w with heap := w.heap.push o } := by
  refine ⟨by simpa using Nat.le_trans h.size (Nat.le_succ _), h.os, h.tape, h.output, fun b hb hm => ?_, fun e he => ?_, fun e he => ?_, ?_⟩
  · have h1 : b < w.heap.size := Nat.lt_of_lt_of_le hb h.size
    rw [← h.frame b hb hm]
    simp [Array.getElem?_push, Nat.ne_of_lt h1]
  · rcases List.mem_cons.1 he with rfl | he
    · simp
    · have := h.lt he
      simp only [Array.getElem?_push, Nat.ne_of_lt this, if_false]
      exact h.has e he
  · rcases List.mem_cons.1 he with rfl | he
    · exact .inr h.size
    · exact h.may e he
  · simp only [List.map_cons, List.nodup_cons]
    refine ⟨fun hm => ?_, h.nodup⟩
    obtain ⟨e, he, hb⟩ := List.mem_map.1 hm
    have := h.lt he
    omega

/-- The block b, that holds o, holds o' behind it: which list that leaves. -/
inductive Repl : List Ent → Nat → Obj → Obj → List Ent → Prop
  | head {b : Nat} {o o' : Obj} {R : List Ent} : Repl (⟨b, o⟩ :: R) b o o' (⟨b, o'⟩ :: R)
  | tail {e : Ent} {b : Nat} {o o' : Obj} {R R' : List Ent} : Repl R b o o' R' → Repl (e :: R) b o o' (e :: R')

theorem Repl.mem {L L' : List Ent} {b : Nat} {o o' : Obj} (h : Repl L b o o' L') : ⟨b, o⟩ ∈ L := by
  induction h with
  | head => exact .head _
  | tail _ ih => exact .tail _ ih

theorem Repl.map {L L' : List Ent} {b : Nat} {o o' : Obj} (h : Repl L b o o' L') : L'.map Ent.b = L.map Ent.b := by
  induction h with
  | head => rfl
  | tail _ ih => simp [ih]

theorem Repl.of_mem {L L' : List Ent} {b : Nat} {o o' : Obj} (h : Repl L b o o' L') (hn : (L.map Ent.b).Nodup) : ∀ e ∈ L', e = ⟨b, o'⟩ ∨ (e ∈ L ∧ e.b ≠ b) := by
  induction h with
  | head =>
    intro e he
    simp only [List.map_cons, List.nodup_cons] at hn
    rcases List.mem_cons.1 he with rfl | he
    · exact .inl rfl
    · exact .inr ⟨.tail _ he, fun hb => hn.1 (hb ▸ List.mem_map.2 ⟨e, he, rfl⟩)⟩
  | @tail e0 b o o' R R' hr ih =>
    intro e he
    simp only [List.map_cons, List.nodup_cons] at hn
    rcases List.mem_cons.1 he with rfl | he
    · refine .inr ⟨.head _, fun hb => hn.1 ?_⟩
      exact List.mem_map.2 ⟨_, hr.mem, hb.symm⟩
    · rcases ih hn.2 e he with h1 | h1
      · exact .inl h1
      · exact .inr ⟨.tail _ h1.1, h1.2⟩

/-- Whatever leaves the other blocks alone. -/
theorem Inv.turn {L' : List Ent} {b : Nat} {o o' : Obj} {w' : World} (h : Inv w0 mods L w) (hr : Repl L b o o' L') (hb : w'.heap[b]? = some o') (hz : w'.heap.size = w.heap.size)
    (hf : ∀ k, k ≠ b → w'.heap[k]? = w.heap[k]?) (h1 : w'.os = w.os) (h2 : w'.tape = w.tape) (h3 : w'.output = w.output) : Inv w0 mods L' w' := by
  have hm := h.may _ hr.mem
  refine ⟨by rw [hz]; exact h.size, h1.trans h.os, h2.trans h.tape, h3.trans h.output, fun k hk hkm => ?_, fun e he => ?_, fun e he => ?_, by rw [hr.map]; exact h.nodup⟩
  · have : k ≠ b := by
      rintro rfl
      rcases hm with hm | hm
      · exact hkm hm
      · simp at hm; omega
    rw [hf k this]; exact h.frame k hk hkm
  · rcases hr.of_mem h.nodup e he with rfl | ⟨he, hne⟩
    · exact hb
    · rw [hf _ hne]; exact h.has e he
  · rcases hr.of_mem h.nodup e he with rfl | ⟨he, hne⟩
    · exact hm
    · exact h.may e he

theorem Inv.sub {L' : List Ent} (h : Inv w0 mods L w) (hs : List.Sublist L' L) : Inv w0 mods L' w :=
  ⟨h.size, h.os, h.tape, h.output, h.frame, fun e he => h.has e (hs.subset he), fun e he => h.may e (hs.subset he), (hs.map _).nodup h.nodup⟩

theorem Inv.perm {L' : List Ent} (h : Inv w0 mods L w) (hs : List.Perm L L') : Inv w0 mods L' w :=
  ⟨h.size, h.os, h.tape, h.output, h.frame, fun e he => h.has e (hs.mem_iff.2 he), fun e he => h.may e (hs.mem_iff.2 he), ((hs.map _).nodup_iff).1 h.nodup⟩
end

/-! ### what stands behind -/
inductive Kont where
  | fin (fn : Func) (R : Ending → World → Prop)
  | seq (c : Code) (k : Kont)
  | block (id : Nat) (k : Kont)
  | loop (I : Act → World → Prop) (k : Kont)
  | rounds (n : Nat) (c : Code) (k : Kont)
  | scope (k : Kont)

def Kont.den (P : Program) : Kont → Exit → Act → World → Prop
  | .fin fn R => bodyPost P fn R
  | .seq c k => Exit.then (c.wp P (k.den P)) (k.den P)
  | .block id k => Exit.inBlock id (k.den P)
  | .loop I k => Exit.then I (k.den P)
  | .rounds n c k => Exit.then (Code.rounds P c (k.den P) n) (k.den P)
  | .scope k => Exit.noGoto (k.den P)

section
variable (P : Program) (n : Nat) (w0 : World) (mods : List Nat)

def GC (c : Code) (k : Kont) (E : Env) (L : List Ent) : Prop := ∀ a w, Fits n E a → Inv w0 mods L w → c.wp P (k.den P) a w
def GK (e : Exit) (k : Kont) (E : Env) (L : List Ent) : Prop := ∀ a w, Fits n E a → Inv w0 mods L w → k.den P e a w
/-- Whatever is still to be shown. -/
def GX (K : Act → World → Prop) (E : Env) (L : List Ent) : Prop := ∀ a w, Fits n E a → Inv w0 mods L w → K a w
@[reducible] def GL (ops rest : List Oper) (k : Kont) (E : Env) (L : List Ent) : Prop := GX n w0 mods (wpList P ops.toArray (k.den P) rest) E L
/-- One operation. -/
def stepOp (ops : List Oper) (Q : Exit → Act → World → Prop) (o : Oper) (K : Act → World → Prop) : Act → World → Prop := fun a w =>
  if Region.wanted o (yielded ops.toArray a.tmps) then o.wp P a w K Q ∨ (o.asks P a w ∧ LetsOut Q) else K (a.put o.dst undef) w
/-- A region that draws its order, these operations being done. -/
def GA (ops : List Oper) (fuel : Nat) (listed : List Bool) (k : Kont) (E : Env) (L : List Ent) : Prop := GX n w0 mods (wpAny P .any ops.toArray (k.den P) fuel listed.toArray) E L
/-- The quiet head of a region that draws. -/
def GQ (ops tail rest : List Oper) (k : Kont) (E : Env) (L : List Ent) : Prop :=
  ∀ a, Fits n E a → wpQuiet P ops.toArray (Inv w0 mods L) (fun a' => ∀ w', Inv w0 mods L w' → wpList P ops.toArray (k.den P) tail a' w') rest a
end

section
variable {P : Program} {n : Nat} {w0 : World} {mods : List Nat} {k : Kont} {E : Env} {L : List Ent}

theorem gc_seq {x y : Code} (h : GC P n w0 mods x (.seq y k) E L) : GC P n w0 mods (.seq x y) k E L := fun a w hf hi => wp_seq (h a w hf hi)
theorem gc_skip (h : GK P n w0 mods .normal k E L) : GC P n w0 mods .skip k E L := fun a w hf hi => wp_skip (h a w hf hi)
theorem gc_exit {id : Nat} (h : GK P n w0 mods (.exit id) k E L) : GC P n w0 mods (.exit id) k E L := fun a w hf hi => wp_exit (h a w hf hi)
theorem gc_ret (h : GK P n w0 mods .ret k E L) : GC P n w0 mods .ret k E L := fun a w hf hi => wp_ret (h a w hf hi)
theorem gc_block {id : Nat} {c : Code} (h : GC P n w0 mods c (.block id k) E L) : GC P n w0 mods (.block id c) k E L := fun a w hf hi => wp_block (h a w hf hi)
theorem gc_region {id : Nat} {l : List Oper} (h : GL P n w0 mods l l k E L) : GC P n w0 mods (.region id l.toArray false) k E L := fun a w hf hi => wp_region_lit (h a w hf hi)
theorem gl_cons {ops rest : List Oper} {o : Oper} (h : GX n w0 mods (stepOp P ops (k.den P) o (wpList P ops.toArray (k.den P) rest)) E L) : GL P n w0 mods ops (o :: rest) k E L := h
theorem gl_nil {ops : List Oper} (h : GK P n w0 mods .normal k E L) : GL P n w0 mods ops [] k E L := fun a w hf hi => h a w hf hi
theorem gc_draw {id m : Nat} {l : List Oper} (hm : P.follows .mixedOrders = true) (hB : Region.lexTailB .any l.toArray m = true)
    (h : GQ P n w0 mods l (l.drop m) (l.take m) k E L) : GC P n w0 mods (.region id l.toArray true) k E L :=
  fun a w hf hi => wp_region_quiet_tail (C := Inv w0 mods L) m hm hB (hi.drew _) (h a hf)
theorem gc_drawAll {id : Nat} {l : List Oper} (hm : P.follows .mixedOrders = true) (hB : Region.lexB .any l.toArray = true)
    (h : GQ P n w0 mods l [] l k E L) : GC P n w0 mods (.region id l.toArray true) k E L :=
  fun a w hf hi => wp_region_quiet (C := Inv w0 mods L) hm hB (hi.drew _) (h a hf)
theorem gq_nil {ops tail : List Oper} (h : GL P n w0 mods ops tail k E L) : GQ P n w0 mods ops tail [] k E L := fun a hf => wpQuiet_nil (fun w hi => h a w hf hi)

theorem gc_cond {c : Operand} {x y : Code} {b : Bool} (hc : Env.ev E c = some (.bool b)) (ht : b = true → GC P n w0 mods x k E L) (he : b = false → GC P n w0 mods y k E L) :
    GC P n w0 mods (.cond c x y) k E L := fun a w hf hi => wp_cond_split (hf.eval hc) (fun h => ht h a w hf hi) (fun h => he h a w hf hi)
theorem gc_if {c : Operand} {x y : Code} {p : Prop} [Decidable p] (hc : Env.ev E c = some (.bool (decide p))) (ht : p → GC P n w0 mods x k E L) (he : ¬ p → GC P n w0 mods y k E L) :
    GC P n w0 mods (.cond c x y) k E L := gc_cond hc (fun h => ht (by simpa using h)) (fun h => he (by simpa using h))
theorem gc_true {c : Operand} {x y : Code} (hc : Env.ev E c = some (.bool true)) (ht : GC P n w0 mods x k E L) : GC P n w0 mods (.cond c x y) k E L :=
  gc_cond hc (fun _ => ht) (fun h => by cases h)
theorem gc_false {c : Operand} {x y : Code} (hc : Env.ev E c = some (.bool false)) (he : GC P n w0 mods y k E L) : GC P n w0 mods (.cond c x y) k E L :=
  gc_cond hc (fun h => by cases h) (fun _ => he)

theorem gc_scope {c : Code} (h : GC P n w0 mods c (.scope k) E L) : GC P n w0 mods (.scope c) k E L := fun a w hf hi => wp_scope_straight (h a w hf hi)
theorem gc_label {l : Nat} (h : GK P n w0 mods .normal k E L) : GC P n w0 mods (.label l) k E L := fun a w hf hi => wp_label (h a w hf hi)
theorem gk_scope (h : GK P n w0 mods .normal k E L) : GK P n w0 mods .normal (.scope k) E L := fun a w hf hi => h a w hf hi
theorem gk_scope_exit {id : Nat} (h : GK P n w0 mods (.exit id) k E L) : GK P n w0 mods (.exit id) (.scope k) E L := fun a w hf hi => h a w hf hi
theorem gk_scope_ret (h : GK P n w0 mods .ret k E L) : GK P n w0 mods .ret (.scope k) E L := fun a w hf hi => h a w hf hi
theorem gk_seq {y : Code} (h : GC P n w0 mods y k E L) : GK P n w0 mods .normal (.seq y k) E L := fun a w hf hi => h a w hf hi
theorem gk_seq_exit {y : Code} {id : Nat} (h : GK P n w0 mods (.exit id) k E L) : GK P n w0 mods (.exit id) (.seq y k) E L := fun a w hf hi => h a w hf hi
theorem gk_seq_ret {y : Code} (h : GK P n w0 mods .ret k E L) : GK P n w0 mods .ret (.seq y k) E L := fun a w hf hi => h a w hf hi
theorem gk_block {id : Nat} (h : GK P n w0 mods .normal k E L) : GK P n w0 mods .normal (.block id k) E L := fun a w hf hi => h a w hf hi
theorem gk_block_ret {id : Nat} (h : GK P n w0 mods .ret k E L) : GK P n w0 mods .ret (.block id k) E L := fun a w hf hi => h a w hf hi
theorem gk_block_exit {id : Nat} (h : GK P n w0 mods .normal k E L) : GK P n w0 mods (.exit id) (.block id k) E L := fun a w hf hi => by
  simpa [Kont.den, Exit.inBlock] using h a w hf hi
theorem gk_block_pass {id id' : Nat} (hn : Nat.beq id' id = false) (h : GK P n w0 mods (.exit id') k E L) : GK P n w0 mods (.exit id') (.block id k) E L := fun a w hf hi => by
  have hne : id' ≠ id := fun e => by subst e; simp at hn
  simpa [Kont.den, Exit.inBlock, hne] using h a w hf hi
theorem gk_loop_exit {id : Nat} {I : Act → World → Prop} (h : GK P n w0 mods (.exit id) k E L) : GK P n w0 mods (.exit id) (.loop I k) E L := fun a w hf hi => h a w hf hi
theorem gk_loop_ret {I : Act → World → Prop} (h : GK P n w0 mods .ret k E L) : GK P n w0 mods .ret (.loop I k) E L := fun a w hf hi => h a w hf hi
theorem gk_rounds_exit {id m : Nat} {c : Code} (h : GK P n w0 mods (.exit id) k E L) : GK P n w0 mods (.exit id) (.rounds m c k) E L := fun a w hf hi => h a w hf hi
theorem gk_rounds_ret {m : Nat} {c : Code} (h : GK P n w0 mods .ret k E L) : GK P n w0 mods .ret (.rounds m c k) E L := fun a w hf hi => h a w hf hi
theorem gk_rounds {m : Nat} {c : Code} (h : GC P n w0 mods c (.rounds m c k) E L) : GK P n w0 mods .normal (.rounds (m + 1) c k) E L := fun a w hf hi => h a w hf hi
theorem gc_rounds {c : Code} (m : Nat) (h : GC P n w0 mods c (.rounds m c k) E L) : GC P n w0 mods (.loop c) k E L := fun a w hf hi => wp_loop_rounds (m + 1) (h a w hf hi)

/-- A loop by what stays true: 's' is whatever the rounds hand on. -/
def Again (n : Nat) (w0 : World) (mods : List Nat) {σ : Type} (I : σ → Prop) (μ : σ → Nat) (EI : σ → Env) (LI : σ → List Ent) (bound : Nat) : Act → World → Prop :=
  fun a w => ∃ s, I s ∧ μ s < bound ∧ Fits n (EI s) a ∧ Inv w0 mods (LI s) w

theorem gc_loop {σ : Type} (I : σ → Prop) (μ : σ → Nat) (EI : σ → Env) (LI : σ → List Ent) {c : Code} (s : σ) (hI : I s) (hE : Env.le (EI s) E) (hL : ∀ w, Inv w0 mods L w → Inv w0 mods (LI s) w)
    (round : ∀ s, I s → GC P n w0 mods c (.loop (Again n w0 mods I μ EI LI (μ s)) k) (EI s) (LI s)) : GC P n w0 mods (.loop c) k E L := by
  intro a w hf hi b ks cs
  have key : ∀ m s a w, μ s = m → I s → Fits n (EI s) a → Inv w0 mods (LI s) w →
      ∃ e a' w', k.den P e a' w' ∧ Arrives P (lone (b.at a (.code c :: .inLoop c :: ks)) cs w) b ks cs e a' w' := by
    intro m
    induction m using Nat.strongRecOn with
    | _ m ih =>
      intro s a w hm hI hf hi
      obtain ⟨e, a₁, w₁, hq, harr⟩ := round s hI a w hf hi b (.inLoop c :: ks) cs
      cases e with
      | normal =>
        obtain ⟨s', hI', hlt, hf', hi'⟩ := hq
        obtain ⟨e₂, a₂, w₂, hq₂, harr₂⟩ := ih (μ s') (hm ▸ hlt) s' a₁ w₁ rfl hI' hf' hi'
        exact ⟨e₂, a₂, w₂, hq₂, .of_steps (Steps.trans harr (.one step_inLoop)) harr₂⟩
      | exit id => exact ⟨_, a₁, w₁, hq, .pass (x := .inLoop c) rfl (fun _ _ => .inl (by simp)) harr⟩
      | goto l => exact ⟨_, a₁, w₁, hq, .pass (x := .inLoop c) rfl (fun _ _ => .inl (by simp)) harr⟩
      | ret => exact ⟨_, a₁, w₁, hq, .pass (x := .inLoop c) rfl (fun _ _ => .inl (by simp)) harr⟩
      | panic ch => exact ⟨_, a₁, w₁, hq, .pass (x := .inLoop c) rfl (fun _ _ => .inl (by simp)) harr⟩
      | outgrown => exact ⟨_, a₁, w₁, hq, .pass (x := .inLoop c) rfl (fun _ _ => .inl (by simp)) harr⟩
  obtain ⟨e, a', w', hq, harr⟩ := key _ s a w rfl hI (hf.le hE) (hL w hi)
  exact ⟨e, a', w', hq, .of_steps (.one step_loop) harr⟩

theorem gk_again {σ : Type} {I : σ → Prop} {μ : σ → Nat} {EI : σ → Env} {LI : σ → List Ent} {bound : Nat} (s : σ) (hI : I s) (hm : μ s < bound) (hE : Env.le (EI s) E)
    (hL : ∀ w, Inv w0 mods L w → Inv w0 mods (LI s) w) : GK P n w0 mods .normal (.loop (Again n w0 mods I μ EI LI bound) k) E L :=
  fun _ w hf hi => ⟨s, hI, hm, hf.le hE, hL w hi⟩

/-! weaker environments, fewer blocks -/
theorem gc_env {c : Code} {F : Env} (h : Env.le F E) (g : GC P n w0 mods c k F L) : GC P n w0 mods c k E L := fun a w hf hi => g a w (hf.le h) hi
theorem gk_env {e : Exit} {F : Env} (h : Env.le F E) (g : GK P n w0 mods e k F L) : GK P n w0 mods e k E L := fun a w hf hi => g a w (hf.le h) hi
theorem gx_env {K : Act → World → Prop} {F : Env} (h : Env.le F E) (g : GX n w0 mods K F L) : GX n w0 mods K E L := fun a w hf hi => g a w (hf.le h) hi
theorem gq_env {ops tail rest : List Oper} {F : Env} (h : Env.le F E) (g : GQ P n w0 mods ops tail rest k F L) : GQ P n w0 mods ops tail rest k E L := fun a hf => g a (hf.le h)
theorem gc_sub {c : Code} {M : List Ent} (h : List.Sublist M L) (g : GC P n w0 mods c k E M) : GC P n w0 mods c k E L := fun a w hf hi => g a w hf (hi.sub h)
theorem gk_sub {e : Exit} {M : List Ent} (h : List.Sublist M L) (g : GK P n w0 mods e k E M) : GK P n w0 mods e k E L := fun a w hf hi => g a w hf (hi.sub h)
theorem gx_sub {K : Act → World → Prop} {M : List Ent} (h : List.Sublist M L) (g : GX n w0 mods K E M) : GX n w0 mods K E L := fun a w hf hi => g a w hf (hi.sub h)
theorem gc_perm {c : Code} {M : List Ent} (h : List.Perm L M) (g : GC P n w0 mods c k E M) : GC P n w0 mods c k E L := fun a w hf hi => g a w hf (hi.perm h)
theorem gx_perm {K : Act → World → Prop} {M : List Ent} (h : List.Perm L M) (g : GX n w0 mods K E M) : GX n w0 mods K E L := fun a w hf hi => g a w hf (hi.perm h)
/-- A test in a temporary, split. -/
theorem gx_split {K : Act → World → Prop} (d : Nat) {p : Prop} [Decidable p] (hc : Env.find E d = some (.bool (decide p))) (ht : p → GX n w0 mods K ((d, .bool true) :: E) L)
    (hf : ¬ p → GX n w0 mods K ((d, .bool false) :: E) L) : GX n w0 mods K E L := by
  intro a w hfit hi
  have mk : ∀ b, decide p = b → Fits n ((d, .bool b) :: E) a := fun b hb => ⟨hfit.size, hfit.defers, fun i v hv => by
    rw [Env.find_cons] at hv
    by_cases hdi : d = i
    · subst hdi; rw [if_pos rfl] at hv; cases hv; rw [← hb]; exact hfit.at' _ _ hc
    · rw [if_neg hdi] at hv; exact hfit.at' _ _ hv⟩
  by_cases h : p
  · exact ht h a w (mk true (by simp [h])) hi
  · exact hf h a w (mk false (by simp [h])) hi
theorem gq_split {ops tail rest : List Oper} (d : Nat) {p : Prop} [Decidable p] (hc : Env.find E d = some (.bool (decide p))) (ht : p → GQ P n w0 mods ops tail rest k ((d, .bool true) :: E) L)
    (hf : ¬ p → GQ P n w0 mods ops tail rest k ((d, .bool false) :: E) L) : GQ P n w0 mods ops tail rest k E L := by
  intro a hfit
  have mk : ∀ b, decide p = b → Fits n ((d, .bool b) :: E) a := fun b hb => ⟨hfit.size, hfit.defers, fun i v hv => by
    rw [Env.find_cons] at hv
    by_cases hdi : d = i
    · subst hdi; rw [if_pos rfl] at hv; cases hv; rw [← hb]; exact hfit.at' _ _ hc
    · rw [if_neg hdi] at hv; exact hfit.at' _ _ hv⟩
  by_cases h : p
  · exact ht h a (mk true (by simp [h]))
  · exact hf h a (mk false (by simp [h]))
end

/-! ### a region's orders, one by one -/
section
variable {P : Program} {n : Nat} {w0 : World} {mods : List Nat} {k : Kont} {E : Env} {L : List Ent}
theorem den_panic (k : Kont) (c : List PanicEntry) (d : Option Tmp) (v : Value) : ∀ a w, k.den P (.panic c) (a.put d v) w → k.den P (.panic c) a w := by
  induction k with
  | fin fn R => intro a w h; cases d <;> exact h
  | seq c' k ih => intro a w h; exact ih a w h
  | block id k ih => intro a w h; exact ih a w h
  | loop I k ih => intro a w h; exact ih a w h
  | rounds n c' k ih => intro a w h; exact ih a w h
  | scope k ih => intro a w h; exact ih a w h
theorem ga_start {id : Nat} {l : List Oper} {m : Nat} {ls : List Bool} (hm : P.follows .mixedOrders = true) (hl : l.length = m) (hls : List.replicate l.length false = ls) (h : GA P n w0 mods l m ls k E L) : GC P n w0 mods (.region id l.toArray true) k E L := by
  intro a w hf hi
  subst hls; subst hl
  have := h a { w with drawn := w.drawn + 1 } hf (hi.drew _)
  refine wp_region_any hm ?_
  have e : (List.replicate l.length false).toArray = Array.replicate l.toArray.size false := by simp
  rw [e] at this
  exact this
theorem ga_done {l : List Oper} {m : Nat} {ls : List Bool} (hr : Region.ready .any l.toArray ls.toArray = []) (h : GK P n w0 mods .normal k E L) : GA P n w0 mods l m ls k E L :=
  fun a w hf hi => wpAny_done hr (h a w hf hi) m
theorem ga_to {l : List Oper} {m : Nat} {ls ls' : List Bool} (h : ls = ls') (g : GA P n w0 mods l m ls' k E L) : GA P n w0 mods l m ls k E L := h ▸ g
/-- An operation that looks at no memory is taken first. -/
def takeB (l : List Oper) (ls : List Bool) (i : Nat) : Bool := Region.noSelect l.toArray && Region.free .any l.toArray ls.toArray i && (Region.ready .any l.toArray ls.toArray).contains i
theorem ga_skip {l : List Oper} {m i d : Nat} {ls ls' : List Bool} {o : Oper} (ho : l[i]? = some o) (hc : takeB l ls i = true) (hls : ls.set i true = ls') (hw : Env.wants E l o.guard = some false) (hd : o.dst = some d) (hn : Nat.ble (d + 1) n = true)
    (h : GA P n w0 mods l m ls' k ((d, undef) :: E) L) : GA P n w0 mods l (m + 1) ls k E L := by
  intro a w hf hi
  subst hls
  simp only [takeB, Bool.and_eq_true] at hc
  refine wpAny_take (oi := o) (v := undef) (by simpa using ho) hc.1.1 hc.1.2 hc.2 (fun c a w h => den_panic k c _ _ a w h) (.inr ⟨hf.wants hw, rfl⟩) ?_
  have := h _ w (hf.put (v := undef) (Nat.le_of_ble_eq_true hn)) hi
  rw [hd]
  simpa using this
/-- What is to be shown of each operation that may come up. -/
inductive GB (P : Program) (n : Nat) (w0 : World) (mods : List Nat) (l : List Oper) (m : Nat) (ls : List Bool) (k : Kont) (E : Env) (L : List Ent) : List Nat → Prop
  | nil : GB P n w0 mods l m ls k E L []
  | cons {i : Nat} {rs : List Nat} {o : Oper} {ls' : List Bool} (ho : l[i]? = some o) (hls : ls.set i true = ls') (h : GX n w0 mods (stepOp P l (k.den P) o (wpAny P .any l.toArray (k.den P) m ls'.toArray)) E L) (hs : GB P n w0 mods l m ls k E L rs) : GB P n w0 mods l m ls k E L (i :: rs)
theorem ga_branch {l : List Oper} {m : Nat} {ls : List Bool} {rs : List Nat} (hr : Region.ready .any l.toArray ls.toArray = rs) (hne : rs.isEmpty = false) (h : GB P n w0 mods l m ls k E L rs) : GA P n w0 mods l (m + 1) ls k E L := by
  intro a w hf hi
  refine wpAny_all hr (by rintro rfl; cases hne) ?_
  have key : ∀ rs', GB P n w0 mods l m ls k E L rs' → ∀ i ∈ rs', wpOp P l.toArray (k.den P) i (wpAny P .any l.toArray (k.den P) m (ls.toArray.setIfInBounds i true)) a w := by
    intro rs' h
    induction h with
    | nil => intro i hi; cases hi
    | cons ho hls h _ ih =>
      intro j hj
      rcases List.mem_cons.1 hj with rfl | hj
      · subst hls
        have := h a w hf hi
        unfold wpOp
        rw [show (l.toArray[j]?) = some _ from by simpa using ho]
        simp only [List.setIfInBounds_toArray]
        exact this
      · exact ih j hj
  exact key rs h
/-- A state that several orders come to. -/
theorem share0 {l : List Oper} {m m' : Nat} {ls ls' : List Bool} {E' : Env} {L' : List Ent} {F : Prop} (f : (F → GA P n w0 mods l m' ls' k E' L') → GA P n w0 mods l m ls k E L) (a : F → GA P n w0 mods l m' ls' k E' L') : GA P n w0 mods l m ls k E L := f a
theorem share1 {α : Type} {l : List Oper} {m m' : Nat} {ls ls' : List Bool} {E' : α → Env} {L' : α → List Ent} {F : α → Prop} (f : (∀ x, F x → GA P n w0 mods l m' ls' k (E' x) (L' x)) → GA P n w0 mods l m ls k E L) (a : ∀ x, F x → GA P n w0 mods l m' ls' k (E' x) (L' x)) : GA P n w0 mods l m ls k E L := f a
theorem share2 {α β : Type} {l : List Oper} {m m' : Nat} {ls ls' : List Bool} {E' : α → β → Env} {L' : α → β → List Ent} {F : α → β → Prop} (f : (∀ x y, F x y → GA P n w0 mods l m' ls' k (E' x y) (L' x y)) → GA P n w0 mods l m ls k E L) (a : ∀ x y, F x y → GA P n w0 mods l m' ls' k (E' x y) (L' x y)) : GA P n w0 mods l m ls k E L := f a
theorem share3 {α β γ : Type} {l : List Oper} {m m' : Nat} {ls ls' : List Bool} {E' : α → β → γ → Env} {L' : α → β → γ → List Ent} {F : α → β → γ → Prop} (f : (∀ x y z, F x y z → GA P n w0 mods l m' ls' k (E' x y z) (L' x y z)) → GA P n w0 mods l m ls k E L) (a : ∀ x y z, F x y z → GA P n w0 mods l m' ls' k (E' x y z) (L' x y z)) : GA P n w0 mods l m ls k E L := f a
theorem share4 {α β γ δ : Type} {l : List Oper} {m m' : Nat} {ls ls' : List Bool} {E' : α → β → γ → δ → Env} {L' : α → β → γ → δ → List Ent} {F : α → β → γ → δ → Prop} (f : (∀ x y z u, F x y z u → GA P n w0 mods l m' ls' k (E' x y z u) (L' x y z u)) → GA P n w0 mods l m ls k E L) (a : ∀ x y z u, F x y z u → GA P n w0 mods l m' ls' k (E' x y z u) (L' x y z u)) : GA P n w0 mods l m ls k E L := f a
theorem share5 {α β γ δ ε : Type} {l : List Oper} {m m' : Nat} {ls ls' : List Bool} {E' : α → β → γ → δ → ε → Env} {L' : α → β → γ → δ → ε → List Ent} {F : α → β → γ → δ → ε → Prop} (f : (∀ x y z u v, F x y z u v → GA P n w0 mods l m' ls' k (E' x y z u v) (L' x y z u v)) → GA P n w0 mods l m ls k E L) (a : ∀ x y z u v, F x y z u v → GA P n w0 mods l m' ls' k (E' x y z u v) (L' x y z u v)) : GA P n w0 mods l m ls k E L := f a
theorem share6 {α β γ δ ε ζ : Type} {l : List Oper} {m m' : Nat} {ls ls' : List Bool} {E' : α → β → γ → δ → ε → ζ → Env} {L' : α → β → γ → δ → ε → ζ → List Ent} {F : α → β → γ → δ → ε → ζ → Prop} (f : (∀ x y z u v t, F x y z u v t → GA P n w0 mods l m' ls' k (E' x y z u v t) (L' x y z u v t)) → GA P n w0 mods l m ls k E L) (a : ∀ x y z u v t, F x y z u v t → GA P n w0 mods l m' ls' k (E' x y z u v t) (L' x y z u v t)) : GA P n w0 mods l m ls k E L := f a
theorem share7 {α β γ δ ε ζ η : Type} {l : List Oper} {m m' : Nat} {ls ls' : List Bool} {E' : α → β → γ → δ → ε → ζ → η → Env} {L' : α → β → γ → δ → ε → ζ → η → List Ent} {F : α → β → γ → δ → ε → ζ → η → Prop} (f : (∀ x y z u v t r, F x y z u v t r → GA P n w0 mods l m' ls' k (E' x y z u v t r) (L' x y z u v t r)) → GA P n w0 mods l m ls k E L) (a : ∀ x y z u v t r, F x y z u v t r → GA P n w0 mods l m' ls' k (E' x y z u v t r) (L' x y z u v t r)) : GA P n w0 mods l m ls k E L := f a
/-- One entry found, the others left. -/
inductive Take : List Ent → Ent → List Ent → Prop
  | head {e : Ent} {R : List Ent} : Take (e :: R) e R
  | tail {e e' : Ent} {R R' : List Ent} : Take R e R' → Take (e' :: R) e (e' :: R')
theorem Take.perm {L R : List Ent} {e : Ent} (h : Take L e R) : List.Perm L (e :: R) := by
  induction h with
  | head => exact .refl _
  | tail _ ih => exact (ih.cons _).trans (.swap _ _ _)
theorem perm_take {L R M : List Ent} {e : Ent} (h : Take L e R) (g : List.Perm R M) : List.Perm L (e :: M) := h.perm.trans (g.cons e)
end

/-! ### contracts -/
/-- What a call of f does: it finds the blocks of L (and may turn these alone), and leaves those of L'. -/
def Spec (P : Program) (f : FuncId) (args : Array Value) (Pre : World → Prop) (L : List Ent) (Post : Value → List Ent → Prop) : Prop :=
  ∀ w0, (∀ e ∈ L, w0.heap[e.b]? = some e.o) → (L.map Ent.b).Nodup → Pre w0 →
    Calls P f args w0 fun e w => ∃ v L', e = .returned v ∧ Post v L' ∧ Inv w0 (L.map Ent.b) L' w

/-- The end of a function's walk. -/
def EndR (w0 : World) (mods : List Nat) (Post : Value → List Ent → Prop) : Ending → World → Prop :=
  fun e w => ∃ v L', e = .returned v ∧ Post v L' ∧ Inv w0 mods L' w

/-- The values of the results. -/
inductive ResV (P : Program) (w0 : World) (mods : List Nat) (E : Env) (L : List Ent) : List ResultVar → List Value → Prop
  | nil : ResV P w0 mods E L [] []
  | cons {r : ResultVar} {rs : List ResultVar} {v : Value} {vs : List Value}
    (h : ∀ n a w, Fits n E a → Inv w0 mods L w → (match r with
      | .tmp t => (pure (a.tmps.getD t undef) : Sem Value)
      | .cell x t => do loadVar t (← asAddr (a.tmps.getD x undef)) : Sem Value).run P w = .ok v w) (hs : ResV P w0 mods E L rs vs) : ResV P w0 mods E L (r :: rs) (v :: vs)

def packed : List Value → Value
  | [v] => v
  | vs => .tuple vs.toArray

inductive All2 {α β : Type} (R : α → β → Prop) : List α → List β → Prop
  | nil : All2 R [] []
  | cons {a : α} {b : β} {as : List α} {bs : List β} : R a b → All2 R as bs → All2 R (a :: as) (b :: bs)

theorem run_mapM {α β : Type} (P : Program) (g : α → Sem β) (w : World) (as : List α) (bs : List β) (h : All2 (fun a b => (g a).run P w = .ok b w) as bs) :
    (as.mapM g).run P w = .ok bs w := by
  induction h with
  | nil => rfl
  | cons h1 h2 ih => simp [List.mapM_cons, h1, ih]

theorem ResV.run {P : Program} {w0 : World} {mods : List Nat} {n : Nat} {E : Env} {L : List Ent} {rs : List ResultVar} {vs : List Value} (h : ResV P w0 mods E L rs vs) {fn : Func} (hr : fn.results = rs.toArray)
    {a : Act} {w : World} (hf : Fits n E a) (hi : Inv w0 mods L w) : (results fn a.tmps).run P w = .ok (packed vs) w := by
  have key : All2 (fun (r : ResultVar) b => ((match r with
      | .tmp t => (pure (a.tmps.getD t undef) : Sem Value)
      | .cell x t => do loadVar t (← asAddr (a.tmps.getD x undef)) : Sem Value)).run P w = .ok b w) rs vs := by
    clear hr
    induction h with
    | nil => exact .nil
    | cons h _ ih => exact .cons (h n a w hf hi) ih
  unfold results
  rw [hr, List.mapM_toArray]
  simp only [Sem.run_bind, Sem.run_map]
  refine (congrArg (fun r : Result (List Value) => Result.andThen (Result.andThen r _) _) (run_mapM P _ w rs vs key)).trans ?_
  simp only [Result.andThen_ok, Sem.run_pure]
  congr 1
  match vs with
  | [] => rfl
  | [v] => rfl
  | u :: v :: vs => simp [packed]

section
variable {P : Program} {n : Nat} {w0 : World} {mods : List Nat} {E : Env} {L : List Ent} {Post : Value → List Ent → Prop}

theorem gk_ret {fn : Func} {rs : List ResultVar} {vs : List Value} (hr : fn.results = rs.toArray) (h : ResV P w0 mods E L rs vs) {M : List Ent} (hs : List.Sublist M L) (hp : Post (packed vs) M) :
    GK P n w0 mods .ret (.fin fn (EndR w0 mods Post)) E L :=
  fun _ _ hf hi => ⟨hf.defers, _, h.run hr hf hi, _, M, rfl, hp, hi.sub hs⟩
theorem gk_end {fn : Func} {rs : List ResultVar} {vs : List Value} (hr : fn.results = rs.toArray) (h : ResV P w0 mods E L rs vs) {M : List Ent} (hs : List.Sublist M L) (hp : Post (packed vs) M) :
    GK P n w0 mods .normal (.fin fn (EndR w0 mods Post)) E L :=
  fun _ _ hf hi => ⟨hf.defers, _, h.run hr hf hi, _, M, rfl, hp, hi.sub hs⟩

theorem resv_tmp {t : Nat} {v : Value} {rs : List ResultVar} {vs : List Value} (h : Env.find E t = some v) (hs : ResV P w0 mods E L rs vs) : ResV P w0 mods E L (.tmp t :: rs) (v :: vs) :=
  .cons (fun n a w hf _ => by have := hf.at' t v h; simp [this]) hs

/-- The arguments at a function's entry. -/
def Env.args : Nat → List Value → Env
  | _, [] => []
  | i, v :: vs => (i, v) :: Env.args (i + 1) vs

theorem Env.find_args : ∀ (vs : List Value) (i j : Nat) (v : Value), Env.find (Env.args i vs) j = some v → i ≤ j ∧ vs[j - i]? = some v
  | [], _, _, _, h => by simp [Env.args, Env.find] at h
  | u :: vs, i, j, v, h => by
    simp only [Env.args] at h
    rw [Env.find_cons] at h
    by_cases hij : i = j
    · subst hij; rw [if_pos rfl] at h; cases h; simp
    · rw [if_neg hij] at h
      obtain ⟨h1, h2⟩ := Env.find_args vs (i + 1) j v h
      refine ⟨by omega, ?_⟩
      rw [show j - i = (j - (i + 1)) + 1 by omega]
      simpa using h2

/-- A function's walk begins. -/
theorem spec_walk {f : FuncId} {fn : Func} {c : Code} {args : List Value} {Pre : World → Prop} {n : Nat} (hf : P.funcs[f]? = some fn) (hb : fn.body = some c) (hn : fn.ntmps = n) (hz : Nat.ble args.length n = true)
    (h : ∀ w0, Pre w0 → GC P n w0 (L.map Ent.b) c (.fin fn (EndR w0 (L.map Ent.b) Post)) (Env.args 0 args) L) : Spec P f args.toArray Pre L Post := by
  intro w0 hL hn' hp
  have hz' : args.length ≤ fn.ntmps := by rw [hn]; exact Nat.le_of_ble_eq_true hz
  subst hn
  refine calls_of_wp hf hb (h w0 hp _ _ ⟨?_, rfl, fun i v hv => ?_⟩ (Inv.start hL hn'))
  · simp; omega
  · obtain ⟨_, h2⟩ := Env.find_args _ _ _ _ hv
    simp only [Nat.sub_zero] at h2
    obtain ⟨h3, h4⟩ := List.getElem?_eq_some_iff.1 h2
    simp [Array.getElem?_append, h3, h4]
end
end Go.Eng
