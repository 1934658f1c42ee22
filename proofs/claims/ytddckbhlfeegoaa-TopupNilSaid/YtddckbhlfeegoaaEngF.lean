/-
  Engine, part F: slices of the call's own: literals, append; bytes of a string.
-/
import Derived.Test.YtddckbhlfeegoaaEngE
import Derived.Deep.AppendSrc
import Derived.Laws.IdiomStrings
namespace Go.Eng
open Go
set_option linter.unusedVariables false
set_option linter.unusedSimpArgs false

/-- A slice value (its address, length, capacity) that owns its block, or is nil: its cells xs, and the list of its blocks. -/
inductive Own (e : TypeId) (size : Nat) : Option Addr → Nat → Nat → List Value → List Ent → Prop
  | nil : Own e size none 0 0 [] []
  | blk {b n c : Nat} {xs junk : List Value} : xs.length = n * size → c * size ≤ (xs ++ junk).length → n ≤ c → Own e size (some ⟨b, 0, none⟩) n c xs [⟨b, .cells (xs ++ junk).toArray e (0, 0)⟩]

/-- These entries, and others in their place. -/
inductive ReplT : List Ent → List Ent → List Ent → List Ent → Prop
  | here {N N' : List Ent} : ReplT N N N' N'
  | tail {e : Ent} {R R' N N' : List Ent} : ReplT R N N' R' → ReplT (e :: R) N N' (e :: R')
  | app {N N' R : List Ent} : ReplT (N ++ R) N N' (N' ++ R)
  | appr {M R R' N N' : List Ent} : ReplT R N N' R' → ReplT (M ++ R) N N' (M ++ R')
  | headR {e : Ent} {N' R : List Ent} : ReplT (e :: R) [e] N' (R ++ N')
theorem ReplT.perm {L N N' L' : List Ent} (h : ReplT L N N' L') : ∃ R, List.Perm L (N ++ R) ∧ List.Perm L' (N' ++ R) := by
  induction h with
  | here => exact ⟨[], by simp, by simp⟩
  | @tail e R R' N N' _ ih =>
    obtain ⟨S, h1, h2⟩ := ih
    exact ⟨e :: S, (h1.cons e).trans List.perm_middle.symm, (h2.cons e).trans List.perm_middle.symm⟩
  | app => exact ⟨_, .refl _, .refl _⟩
  | @appr M R R' N N' _ ih =>
    obtain ⟨S, h1, h2⟩ := ih
    refine ⟨M ++ S, (h1.append_left M).trans ?_, (h2.append_left M).trans ?_⟩ <;>
    · rw [← List.append_assoc, ← List.append_assoc]
      exact List.perm_append_comm.append_right S
  | @headR e N' R => exact ⟨R, .refl _, List.perm_append_comm⟩
theorem Repl.of_perm {L L' R : List Ent} {b : Nat} {o o' : Obj} {w0 w w' : World} {mods : List Nat} (h : List.Perm L (⟨b, o⟩ :: R)) (h' : List.Perm L' (⟨b, o'⟩ :: R)) (hi : Inv w0 mods L w)
    (k : Inv w0 mods (⟨b, o⟩ :: R) w → Inv w0 mods (⟨b, o'⟩ :: R) w') : Inv w0 mods L' w' := (k (hi.perm h)).perm h'.symm

theorem Own.sees {e size n c : Nat} {ba : Option Addr} {xs : List Value} {N N' L L' : List Ent} {w0 : World} {mods : List Nat} (h : Own e size ba n c xs N) (hr : ReplT L N N' L') : Sees w0 mods L ba xs := by
  obtain ⟨R, h1, _⟩ := hr.perm
  cases h with
  | nil => exact sees_nil
  | @blk b n c xs junk hl hc hnc =>
    have : Sees w0 mods L (some ⟨b, 0, none⟩) (xs ++ junk) := sees_all (h1.mem_iff.2 (List.mem_append_left _ (.head _)))
    intro w hi i v hv
    have hlt : i < xs.length := (List.getElem?_eq_some_iff.1 hv).1
    exact this w hi i v (by rw [List.getElem?_append_left hlt]; exact hv)
theorem Own.look {e size n c : Nat} {ba : Option Addr} {xs : List Value} {N L : List Ent} {w0 : World} {mods : List Nat} (h : Own e size ba n c xs N) (hr : ReplT L N N L) : Sees w0 mods L ba xs := h.sees hr
theorem own_lit {e size n b : Nat} {xs : List Value} (h : xs.length = n * size) : Own e size (some ⟨b, 0, none⟩) n n xs [⟨b, .cells xs.toArray e (0, 0)⟩] := by
  have := Own.blk (e := e) (b := b) (junk := []) h (by simp [h]) (Nat.le_refl n)
  simpa using this
theorem Own.len {e size n c : Nat} {ba : Option Addr} {xs : List Value} {N : List Ent} (h : Own e size ba n c xs N) : xs.length = n * size := by
  cases h with
  | nil => simp
  | blk hl hc _ => exact hl
theorem Own.cap {e size n c : Nat} {ba : Option Addr} {xs : List Value} {N : List Ent} (h : Own e size ba n c xs N) : n ≤ c := by
  cases h with
  | nil => simp
  | blk hl hc h => exact h
/-- Less of it. -/
theorem Own.reslice {e size n c m c' : Nat} {ba : Option Addr} {xs : List Value} {N : List Ent} (h : Own e size ba n c xs N) (h1 : m ≤ n) (h2 : m ≤ c') (h3 : c' ≤ c) : Own e size ba m c' (xs.take (m * size)) N := by
  cases h with
  | nil =>
    obtain rfl : m = 0 := by omega
    obtain rfl : c' = 0 := by omega
    simpa using Own.nil
  | @blk b n c xs junk hl hc hnc =>
    have e1 : xs ++ junk = xs.take (m * size) ++ (xs.drop (m * size) ++ junk) := by rw [← List.append_assoc, List.take_append_drop]
    rw [e1] at hc ⊢
    have h4 : m * size ≤ n * size := Nat.mul_le_mul_right _ h1
    have h5 : c' * size ≤ c * size := Nat.mul_le_mul_right _ h3
    exact .blk (by rw [List.length_take, hl]; omega) (by omega) h2

/-- What is appended: so many elements, with these cells, in every world that is meant. -/
def Brings (P : Program) (w0 : World) (mods : List Nat) (L : List Ent) (size : Nat) (u : TypeId) (x : Value) (m : Nat) (ys : List Value) : Prop := ∀ w, Inv w0 mods L w → Src P size u x m ys w
theorem brings_slice {P : Program} {w0 : World} {mods : List Nat} {L : List Ent} {u e size bytes m c : Nat} {ba : Option Addr} {ys : List Value} (hk : sliOf P u = some (e, size, bytes)) (h : Sees w0 mods L ba ys) (hl : ys.length = m * size)
    (h1 : ∀ v ∈ ys, v.oneCell' = true) : Brings P w0 mods L size u (.slice ba m c) m ys := fun w hi => by
  obtain ⟨hu, _⟩ := sliOf_spec hk
  have key : ∀ w, Inv w0 mods L w → (Builtin.firstCells size m (.slice ba m c)).run P w = .ok ys.toArray w := fun w hi => by
    cases ba with
    | none =>
      cases ys with
      | nil => rfl
      | cons y ys =>
        obtain ⟨a, ha, _⟩ := h w hi 0 y rfl
        cases ha
    | some a =>
      exact run_firstCells_some w size m a m c ys hl (fun j v hv => by
        obtain ⟨a', ha, hc⟩ := h w hi j v hv
        cases ha; exact hc)
  exact ⟨.inl ⟨e, hu⟩, fun _ => rfl, key w hi, key w.drew (hi.drew _), hl, h1⟩
theorem brings_string {P : Program} {w0 : World} {mods : List Nat} {L : List Ent} {u : TypeId} {s : ByteArray} (hk : P.underlying u = some .string) : Brings P w0 mods L 1 u (.string s) s.size (s.data.toList.map U8) := fun w hi => Src.ofString w hk s

theorem flat_len {f : BitVec 64 → List Value} (hf : ∀ x, (f x).length = 8) : ∀ l : List (BitVec 64), (l.flatMap f).length = l.length * 8
  | [] => rfl
  | x :: l => by rw [List.flatMap_cons, List.length_append, hf, flat_len hf l, List.length_cons]; omega
theorem dig_len (l : List (BitVec 64)) : (l.flatMap digL).length = l.length * 8 := flat_len (fun _ => rfl) l
theorem dig_drop : ∀ (l : List (BitVec 64)) (m : Nat) (hm : m < l.length), ((l.flatMap digL).drop (m * 8)).take 8 = digL l[m]
  | x :: l, 0, _ => by rw [List.flatMap_cons, Nat.zero_mul, List.drop_zero]; rfl
  | x :: l, m + 1, hm => by
    rw [List.flatMap_cons, show (m + 1) * 8 = (digL x).length + m * 8 by simp; omega, ← List.drop_drop, List.drop_left]
    exact dig_drop l m (by simpa using hm)
theorem Sees.elem8 {w0 : World} {mods : List Nat} {L : List Ent} {l : List (BitVec 64)} {ba : Option Addr} {m : Nat} (h : Sees w0 mods L ba (l.flatMap digL)) (hm : m < l.length) : Sees w0 mods L (ba.map (·.add (m * 8))) (digL l[m]) := by
  have := (h.part (m * 8)).take 8
  rwa [dig_drop l m hm] at this
theorem one_dig (x : BitVec 64) : ∀ v ∈ digL x, v.oneCell' = true := fun v hv => by
  simp only [digL, List.mem_cons, List.not_mem_nil, or_false] at hv
  rcases hv with rfl | rfl | rfl | rfl | rfl | rfl | rfl | rfl <;> rfl
theorem one_digs (l : List (BitVec 64)) : ∀ v ∈ l.flatMap digL, v.oneCell' = true := fun v hv => by
  obtain ⟨x, _, hx⟩ := List.mem_flatMap.1 hv
  exact one_dig x v hx

theorem one_int (k : IntKind) (n : Int) : (Value.int k n).oneCell' = true := rfl
theorem one_map {α : Type} {f : α → Value} (h : ∀ a, (f a).oneCell' = true) (l : List α) : ∀ v ∈ l.map f, v.oneCell' = true := fun v hv => by
  obtain ⟨a, _, rfl⟩ := List.mem_map.1 hv
  exact h a

theorem grownCap_ge (w : World) (need old : Nat) (e : TypeId) : need ≤ grownCap w need old e := by
  unfold grownCap Question.cut
  exact Nat.le_add_right _ _

theorem run_append {P : Program} {w0 w : World} {mods : List Nat} {L : List Ent} {t u ty e size bytes n c m : Nat} {ba : Option Addr} {xs ys : List Value} {N : List Ent} {L' : List Ent → List Ent} {x z : Value}
    (hk : sliOf P t = some (e, size, bytes)) (hz : zeroOf P e = some z) (hzs : z.cells.size = size) (hb : 0 < bytes) (hown : Own e size ba n c xs N) (hr : ∀ N', ReplT L N N' (L' N'))
    (hsrc : Brings P w0 mods L size u x m ys) (hbound : (n + m) * bytes ≤ 140737488355328) (hi : Inv w0 mods L w) :
    ∃ w' ba' c' N', (Builtin.append_ #[t, u] ty #[.slice ba n c, x]).run P w = .ok (.slice ba' (n + m) c') w' ∧ Own e size ba' (n + m) c' (xs ++ ys) N' ∧ Inv w0 mods (L' N') w' := by
  obtain ⟨hut, inf, hinf, hsz, hby⟩ := sliOf_spec hk
  obtain ⟨inf', hinf', hz'⟩ := zeroOf_spec hz
  have : inf' = inf := Option.some.inj (hinf'.symm.trans hinf)
  subst this
  have hS := hsrc w hi
  have hm := hS.newsLen
  have h1 := hS.one
  rw [← hsz] at hS
  by_cases hroom : n + m ≤ c
  · cases hown with
    | nil =>
      obtain rfl : m = 0 := by omega
      have : ys = [] := by simpa using hm
      subst this
      refine ⟨w, none, 0, [], ?_, .nil, ?_⟩
      · rcases hS.kind with ⟨e', hk'⟩ | hk' <;> simp [Builtin.append_, run_underlying hut, run_underlying hk', sizeOf, typeInfo, hinf, hS.len, hS.cells]
      · obtain ⟨R, p1, p2⟩ := (hr []).perm
        exact (hi.perm p1).perm p2.symm
    | @blk b n c xs junk hl hc hnc =>
      have hlen2 : c * size ≤ xs.length + junk.length := by simpa using hc
      have hle : n * size + m * size ≤ c * size := by rw [← Nat.add_mul]; exact Nat.mul_le_mul_right _ hroom
      have hfits : n * size + ys.length ≤ (xs ++ junk).length := by rw [hm, List.length_append]; omega
      have hsp : splice (xs ++ junk) (n * size) ys = (xs ++ ys) ++ junk.drop ys.length := by
        unfold splice
        rw [← hl, List.take_left, ← List.drop_drop, List.drop_left]
      obtain ⟨R, p1, p2⟩ := (hr [⟨b, .cells ((xs ++ ys) ++ junk.drop ys.length).toArray e (0, 0)⟩]).perm
      obtain ⟨w', hst, hi'⟩ := Inv.store (L' := ⟨b, .cells (splice (xs ++ junk) (n * size) ys).toArray e (0, 0)⟩ :: R) (off := n * size) (vs := ys) (hi.perm p1) .head hfits h1 P
      rw [hsp] at hi'
      refine ⟨w', some ⟨b, 0, none⟩, c, _, ?_, .blk ?_ ?_ hroom, hi'.perm p2.symm⟩
      · have hcell : ∀ j, j < ys.length → (w.cell? ⟨b, 0 + n * inf'.size + j, none⟩).isSome = true := fun j hj => by
          have := (sees_all (w0 := w0) (mods := mods) (L := L) (bs := xs ++ junk) (T := e) (fz := (0, 0)) (b := b) (p1.mem_iff.2 (.head _))) w hi
          have hj' : n * size + j < (xs ++ junk).length := by omega
          obtain ⟨a, ha, hc2⟩ := this (n * size + j) _ (List.getElem?_eq_getElem hj')
          cases ha
          rw [add_mk] at hc2
          rw [hsz, Nat.zero_add, ← Nat.zero_add (n * size + j), hc2]
          rfl
        have hfro : ∀ j, j < ys.length → w.frozen? ⟨b, 0 + n * inf'.size + j, none⟩ = false := fun j hj => by
          have := hi.has _ (p1.mem_iff.2 (.head _))
          simp [World.frozen?, this]
        rw [run_append_room_src w t u ty e inf' hut hinf b 0 n c x m ys hS hroom hcell hfro]
        have h3 := run_storeCells_cells (P := P) b (0 + n * inf'.size) ys 0 w (by simpa using hcell) (by simpa using hfro) h1
        simp only [Nat.add_zero, Nat.zero_add, hsz] at h3 ⊢
        rw [hst] at h3
        injection h3 with _ h3
        rw [h3]
      · rw [List.length_append, hl, hm, Nat.add_mul]
      · rw [List.length_append, List.length_append, List.length_drop, hl, hm]
        rw [hl] at hlen2
        omega
  · have hg : c < n + m := by omega
    have hf : Builtin.nextslicecap (n + m) c * inf'.bytes ≤ 281474976710656 := growslice_fits hg (by rw [hby]; exact hbound)
    have h63 : ((n + m : Nat) : Int) ≤ 9223372036854775807 := by
      have : n + m ≤ (n + m) * bytes := Nat.le_mul_of_pos_right _ hb
      omega
    have hlo := hown.len
    have hold : (Builtin.firstCells inf'.size n (.slice ba n c)).run P w.drew = .ok xs.toArray w.drew := by
      rw [hsz]
      have hsee := (hown.sees (w0 := w0) (mods := mods) (hr [])) w.drew (hi.drew _)
      cases ba with
      | none =>
        cases xs with
        | nil => rfl
        | cons y ys =>
          obtain ⟨a, ha, _⟩ := hsee 0 y rfl
          cases ha
      | some a =>
        exact run_firstCells_some w.drew size n a n c xs hlo (fun j v hv => by
          obtain ⟨a', ha, hc⟩ := hsee j v hv
          cases ha; exact hc)
    have hrun := run_append_grow_src w t u ty e inf' z hut hinf hz' ba n c xs hold x m ys hS hg h63 hf
    have hp := (hi.drew (w.drawn + 1)).push (.cells ((xs ++ ys).toArray ++ Builtin.zeroCells z.cells (grownCap w (n + m) c e - (n + m))) e)
    have heq : ((xs ++ ys).toArray ++ Builtin.zeroCells z.cells (grownCap w (n + m) c e - (n + m))) = ((xs ++ ys) ++ (Builtin.zeroCells z.cells (grownCap w (n + m) c e - (n + m))).toList).toArray := by
      apply Array.ext'; simp
    rw [heq] at hp hrun
    obtain ⟨R, p1, p2⟩ := (hr [⟨w.heap.size, .cells ((xs ++ ys) ++ (Builtin.zeroCells z.cells (grownCap w (n + m) c e - (n + m))).toList).toArray e (0, 0)⟩]).perm
    refine ⟨_, _, _, _, hrun, .blk ?_ ?_ (grownCap_ge w (n + m) c e), ((hp.perm (p1.cons _)).sub ?_).perm p2.symm⟩
    · rw [List.length_append, hlo, hm, Nat.add_mul]
    · rw [List.length_append, List.length_append, hlo, hm, Array.length_toList, size_zeroCells, hzs, ← Nat.add_mul, ← Nat.add_mul]
      have := grownCap_ge w (n + m) c e
      exact Nat.mul_le_mul_right _ (by omega)
    · exact List.Sublist.cons_cons _ (List.sublist_append_right _ _)

section
variable {P : Program} {n : Nat} {w0 : World} {mods : List Nat} {k : Kont} {E : Env} {L : List Ent}
variable {dst : Option Tmp} {T t ty : TypeId} {pos : String} {after : Array Edge} {g : Option (Nat × Bool)} {x y z : Operand} {op : BinOp}

theorem gs_append {ops : List Oper} {Q : Exit → Act → World → Prop} {K : Act → World → Prop} {u e size bytes nn c m d : Nat} {ba : Option Addr} {xs ys : List Value} {N : List Ent} {L' : List Ent → List Ent} {v zv : Value} (hk : sliOf P t = some (e, size, bytes)) (hz : zeroOf P e = some zv) (hzs : zv.cells.size = size) (hb : Nat.ble 1 bytes = true)
    (hx : Env.ev E x = some (.slice ba nn c)) (hy : Env.ev E y = some v) (hw : Env.wants E ops g = some true) (hn : Nat.ble (d + 1) n = true) (hown : Own e size ba nn c xs N) (hr : ∀ N', ReplT L N N' (L' N'))
    (hsrc : Brings P w0 mods L size u v m ys) (hbound : (nn + m) * bytes ≤ 140737488355328)
    (h : ∀ ba' c' N', Own e size ba' (nn + m) c' (xs ++ ys) N' → GX n w0 mods K ((d, .slice ba' (nn + m) c') :: E) (L' N')) :
    GX n w0 mods (stepOp P ops Q (⟨some d, .call ⟨.builtin .append, #[x, y], #[t, u]⟩, T, pos, after, g⟩) K) E L := by
  intro a w hf hi
  unfold stepOp
  rw [if_pos (hf.wants hw)]
  refine .inl ?_
  unfold Oper.wp
  obtain ⟨w', ba', c', N', hrun, ho, hi'⟩ := run_append (ty := T) hk hz hzs (Nat.le_of_ble_eq_true hb) hown hr hsrc hbound hi
  have : (execOp a.eval ⟨some d, .call ⟨.builtin .append, #[x, y], #[t, u]⟩, T, pos, after, g⟩).run P w = .ok (.value (.slice ba' (nn + m) c')) w' := by
    simp [execOp, resolve, invoke, builtin, hf.eval hx, hf.eval hy, hrun]
  rw [this]
  exact h _ _ _ ho _ _ (hf.put (Nat.le_of_ble_eq_true hn)) hi'

/-- A contract that makes memory of its own: 's' is whatever its answer hangs on. -/
def Makes {σ : Type} (P : Program) (f : FuncId) (args : Array Value) (Pre : World → Prop) (I : σ → Prop) (v : σ → Value) (N : σ → List Ent) : Prop := Spec P f args Pre [] fun r L' => ∃ s, I s ∧ r = v s ∧ L' = N s
theorem gs_makes {σ : Type} {ops : List Oper} {Q : Exit → Act → World → Prop} {K : Act → World → Prop} {o : Oper} {d : Nat} {f : FuncId} {args : Array Value} {Pre : World → Prop} {I : σ → Prop} {v : σ → Value} {N : σ → List Ent} (he : Enters P n w0 mods E L o f args) (hs : Makes P f args Pre I v N)
    (hw : Env.wants E ops o.guard = some true) (hd : o.dst = some d) (hn : Nat.ble (d + 1) n = true) (hpre : ∀ w, Inv w0 mods L w → Pre w)
    (h : ∀ s, I s → GX n w0 mods K ((d, v s) :: E) (N s ++ L)) : GX n w0 mods (stepOp P ops Q o K) E L :=
  gs_call he hs hw hd hn (List.Perm.refl L) hpre (fun r L' ⟨s, h1, h2, h3⟩ => by
    subst h2; subst h3
    exact h s h1)

/-- A slice literal. -/
def zerosOf (z : Value) (m : Nat) : List Value := (List.range m).map fun i => z.cells[i % z.cells.size]!
theorem gs_buildSlice {ops : List Oper} {Q : Exit → Act → World → Prop} {K : Act → World → Prop} {e size bytes len d : Nat} {zv : Value} {xs : List (Nat × Operand)} {vs : List (Nat × Value)} {zs cs : List Value} (hk : sliOf P t = some (e, size, bytes)) (hz : zeroOf P e = some zv) (hzs : zerosOf zv (len * size) = zs) (hlen : Nat.ble (len * size) 16777216 = true)
    (hx : EvParts E xs vs) (hfill : Fill (fun i => some (i * size, size)) zs vs cs) (hw : Env.wants E ops g = some true) (hn : Nat.ble (d + 1) n = true)
    (h : ∀ b, GX n w0 mods K ((d, .slice (some ⟨b, 0, none⟩) len len) :: E) (⟨b, .cells cs.toArray e (0, 0)⟩ :: L)) :
    GX n w0 mods (stepOp P ops Q (⟨some d, .buildSlice t len xs.toArray, T, pos, after, g⟩) K) E L := by
  intro a w hf hi
  unfold stepOp
  rw [if_pos (hf.wants hw)]
  refine .inl ?_
  unfold Oper.wp
  obtain ⟨hut, inf, hinf, hsz, hby⟩ := sliOf_spec hk
  obtain ⟨inf', hinf', hz'⟩ := zeroOf_spec hz
  have : inf' = inf := Option.some.inj (hinf'.symm.trans hinf)
  subst this
  have hrun : (execOp a.eval ⟨some d, .buildSlice t len xs.toArray, T, pos, after, g⟩).run P w = .ok (.value (.slice (some ⟨w.heap.size, 0, none⟩) len len)) { w with heap := w.heap.push (.cells cs.toArray e (0, 0)) } := by
    have hle := Nat.le_of_ble_eq_true hlen
    have hl2 : ¬ (len * size > 2 ^ 24) := by have : 2 ^ 24 = 16777216 := rfl; omega
    have hparts := hx.map hf
    subst hzs
    have hz0 : (Array.range (len * size)).map (zv.cells[· % zv.cells.size]!) = (zerosOf zv (len * size)).toArray := by
      unfold zerosOf
      apply Array.ext'
      simp
    simp only [execOp, Instr.buildSlice, Sem.run_bind, run_underlying hut, Result.andThen_ok, sizeOf, typeInfo, run_program, hinf, Sem.run_pure, hsz, hl2, if_false]
    by_cases h0 : len * size = 0
    · have hz1 : zerosOf zv (len * size) = [] := by rw [h0]; rfl
      rw [hz1] at hfill
      have hfr := hfill.run
      simp only [h0, if_true, Sem.run_pure, Result.andThen_ok]
      simp [hparts, newRow]
      rw [show (Array.map (fun x => (default : Value)) (Array.range 0)) = List.toArray [] from by simp, hfr]
      rfl
    · have hfr := hfill.run
      simp only [h0, if_false, zeroValue, typeInfo, Sem.run_bind, run_program, Result.andThen_ok, hinf, hz', Sem.run_pure, hz0]
      simp [hparts, hfr, newRow]
  rw [hrun]
  exact h _ _ _ (hf.put (Nat.le_of_ble_eq_true hn)) (hi.push _)

/-- The bytes of a string, as a new slice (whose block is marked behind its end). -/
theorem gs_strBytes {ops : List Oper} {Q : Exit → Act → World → Prop} {K : Act → World → Prop} {s d2 e d : Nat} {st : ByteArray} (hs : P.underlying s = some .string) (hd : P.underlying d2 = some (.slice e)) (he : P.underlying e = some (.int .u8)) (hx : Env.ev E x = some (.string st)) (hw : Env.wants E ops g = some true) (hn : Nat.ble (d + 1) n = true)
    (h : ∀ b c junk fz, st.size ≤ c → GX n w0 mods K ((d, .slice (some ⟨b, 0, none⟩) st.size c) :: E) (⟨b, .cells (st.data.toList.map U8 ++ junk).toArray e fz⟩ :: L)) :
    GX n w0 mods (stepOp P ops Q (⟨some d, .convert s d2 x, T, pos, after, g⟩) K) E L := by
  intro a w hf hi
  unfold stepOp
  rw [if_pos (hf.wants hw)]
  refine .inl ?_
  unfold Oper.wp
  have hrun := run_bytes_of_string (P := P) w s d2 e st hs hd he
  have hcs : bytesRow st (grownCap w st.size 0 e) = (st.data.toList.map U8 ++ List.replicate (grownCap w st.size 0 e - st.size) (Value.int .u8 0)).toArray := by
    unfold bytesRow
    apply Array.ext'; simp [U8]
  have hrun2 : (execOp a.eval ⟨some d, .convert s d2 x, T, pos, after, g⟩).run P w = .ok (.value (.slice (some ⟨w.heap.size, 0, none⟩) st.size (grownCap w st.size 0 e)))
      (w.drew.alloc (.cells (bytesRow st (grownCap w st.size 0 e)) e ((bytesRow st (grownCap w st.size 0 e)).size, (bytesRow st (grownCap w st.size 0 e)).size + 1))) := by
    simp only [execOp, Sem.run_bind, hf.eval hx, hrun, Result.andThen_ok, Sem.run_pure]
  rw [hrun2, hcs]
  have hp := (hi.drew (w.drawn + 1)).push (.cells (st.data.toList.map U8 ++ List.replicate (grownCap w st.size 0 e - st.size) (Value.int .u8 0)).toArray e ((st.data.toList.map U8 ++ List.replicate (grownCap w st.size 0 e - st.size) (Value.int .u8 0)).toArray.size, (st.data.toList.map U8 ++ List.replicate (grownCap w st.size 0 e - st.size) (Value.int .u8 0)).toArray.size + 1))
  exact h _ _ _ _ (grownCap_ge w st.size 0 e) _ _ (hf.put (Nat.le_of_ble_eq_true hn)) hp
end
end Go.Eng
