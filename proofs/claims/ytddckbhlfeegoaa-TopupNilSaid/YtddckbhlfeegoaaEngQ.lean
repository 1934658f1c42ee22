/-
  Engine, part Q: maps whose keys are digests.
-/
import Derived.Test.YtddckbhlfeegoaaEngN
namespace Go.Eng
open Go
set_option linter.unusedVariables false
set_option linter.unusedSimpArgs false
/-- An object that is known, whatever is done. -/
def Knows (w0 : World) (mods : List Nat) (L : List Ent) (b : Nat) (o : Obj) : Prop := ∀ w, Inv w0 mods L w → w.heap[b]? = some o
/-- An object in a world, in no block that is turned. -/
def Holds (w : World) (mods : List Nat) (b : Nat) (o : Obj) : Prop := w.heap[b]? = some o ∧ b ∉ mods
theorem knows_mem {w0 : World} {mods : List Nat} {L : List Ent} {b : Nat} {o : Obj} (h : ⟨b, o⟩ ∈ L) : Knows w0 mods L b o := fun w hi => hi.has _ h
theorem knows_holds {w0 : World} {mods : List Nat} {L : List Ent} {b : Nat} {o : Obj} (h : Holds w0 mods b o) : Knows w0 mods L b o := fun w hi => by
  have hb : b < w0.heap.size := by
    rcases Nat.lt_or_ge b w0.heap.size with h1 | h1
    · exact h1
    · have h2 := h.1; rw [Array.getElem?_eq_none h1] at h2; cases h2
  rw [hi.frame b hb h.2]; exact h.1
theorem holds_of_knows {w0 : World} {mods : List Nat} {L : List Ent} {b : Nat} {o : Obj} (h : Knows w0 mods L b o) : ∀ w, Inv w0 mods L w → Holds w [] b o := fun w hi => ⟨h w hi, List.not_mem_nil⟩
abbrev MRow := BitVec 64 × Value × Nat
def mapEs (l : List MRow) : Array MapEntry := (l.map fun p => (⟨Dig p.1, p.2.1, p.2.2⟩ : MapEntry)).toArray
def findD (d : BitVec 64) : List MRow → Nat → Option (Nat × Value)
  | [], _ => none
  | p :: l, i => if d = p.1 then some (i, p.2.1) else findD d l (i + 1)
theorem run_findAsking_dig {P : Program} {kt : TypeId} (hk : DigT P kt) (d : BitVec 64) (w : World) : ∀ (l : List MRow) (i : Nat),
    (Instr.findAsking kt (Dig d) (l.map fun p => (⟨Dig p.1, p.2.1, p.2.2⟩ : MapEntry)) i).run P w = .ok (findD d l i) w
  | [], i => rfl
  | p :: l, i => by
    rw [List.map_cons]
    unfold Instr.findAsking
    rw [Sem.run_bind, run_equal_dig hk, Result.andThen_ok]
    unfold findD
    by_cases h : d = p.1
    · simp [h]
    · simp only [decide_eq_false h, if_neg h, Bool.false_eq_true, if_false]
      exact run_findAsking_dig hk d w l (i + 1)
theorem run_findKey_dig {P : Program} {kt : TypeId} (hk : DigT P kt) (d : BitVec 64) (w : World) (l : List MRow) : (Instr.findKey kt (Dig d) (mapEs l).toList).run P w = .ok (findD d l 0) w := by
  obtain ⟨e, i, hu, _⟩ := hk.spec
  have h := run_findAsking_dig hk d w l 0
  unfold Instr.findKey mapEs
  rw [Sem.run_bind, run_underlying hu, Result.andThen_ok]
  cases l with
  | nil => rfl
  | cons p l =>
    have : Instr.findNow (.array 8 e) (Dig d) (((p :: l).map fun p => (⟨Dig p.1, p.2.1, p.2.2⟩ : MapEntry)).toArray.toList) 0 = none := rfl
    rw [this]
    exact h
theorem run_checkKey_dig {P : Program} {kt : TypeId} (hk : DigT P kt) (d : BitVec 64) (w : World) (em : Bool) : (Instr.checkKey em 10000 kt (Dig d)).run P w = .ok () w := by
  obtain ⟨e, i, hu, he, hi, hs⟩ := hk.spec
  have hp : ∀ (cs : List Value) (m : Nat) (b : UInt8), cs[m]? = some (U8 b) → (part e cs.toArray m).run P w = .ok (U8 b) w := fun cs m b hb => by
    simp [part, isAgg, run_underlying he, hb]
  have h0 : ∀ m, m < 8 → (part e (digL d).toArray m).run P w = .ok (U8 (bt d m)) w := fun m hm => hp _ _ _ (by
    rcases m with _ | _ | _ | _ | _ | _ | _ | _ | m <;> first | rfl | omega)
  have hc : ∀ (n : Nat) (b : UInt8), (Instr.checkKey em (n + 1) e (U8 b)).run P w = .ok () w := fun n b => by
    simp [Instr.checkKey, run_underlying he]
  suffices H : ∀ n, (Instr.checkKey em (n + 2) kt (Dig d)).run P w = .ok () w from H 9998
  intro n
  rw [show n + 2 = (n + 1) + 1 from rfl]
  unfold Instr.checkKey
  simp only [Sem.run_bind, run_underlying hu, Result.andThen_ok, sizeOf, typeInfo, run_program, hi, Sem.run_pure, hs, Nat.mul_one]
  rw [show ([:8] : Std.Legacy.Range) = [0:8] from rfl]
  simp only [Std.Legacy.Range.forIn_eq_forIn_range', Std.Legacy.Range.size, Nat.sub_zero, Nat.add_one_sub_one, Nat.div_one, List.range', List.forIn_cons, List.forIn_nil]
  simp [Sem.run_bind, h0, hc, hi, hs]
/-- A map behind an update. -/
def putD (d : BitVec 64) (v : Value) (l : List MRow) (clk : Nat) : List MRow × Nat := match findD d l 0 with
  | some (i, _) => (l.modify i fun p => (p.1, v, p.2.2), clk)
  | none => (l ++ [(d, v, clk)], clk + 1)
def dropD (d : BitVec 64) (l : List MRow) : List MRow := match findD d l 0 with
  | some (i, _) => l.eraseIdx i
  | none => l
theorem findD_ge (d : BitVec 64) : ∀ (l : List MRow) (i j : Nat) (v : Value), findD d l i = some (j, v) → ∃ k, j = i + k ∧ ∃ p, l[k]? = some p ∧ p.1 = d ∧ p.2.1 = v
  | [], i, j, v, h => by simp [findD] at h
  | p :: l, i, j, v, h => by
    unfold findD at h
    split at h
    · rename_i e
      simp only [Option.some.injEq, Prod.mk.injEq] at h
      exact ⟨0, by omega, p, rfl, e.symm, h.2⟩
    · obtain ⟨k, h1, q, h2, h3⟩ := findD_ge d l (i + 1) j v h
      exact ⟨k + 1, by omega, q, by simpa using h2, h3⟩
theorem sameBits_dig (d : BitVec 64) : Instr.sameBits 10000 (Dig d) (Dig d) = true := by
  rw [show (10000 : Nat) = 9999 + 1 from rfl]
  unfold Instr.sameBits
  simp [Instr.sameBits]
section
variable {P : Program} {n : Nat} {w0 : World} {mods : List Nat} {E : Env} {L : List Ent} {dst : Option Tmp} {T t ty : TypeId} {pos : String} {after : Array Edge} {g : Option (Nat × Bool)} {x y z : Operand}
def mapT (P : Program) (t : TypeId) : Option (TypeId × TypeId) := match P.underlying t with
  | some (.map k e) => some (k, e)
  | _ => none
theorem mapT_spec {k e : TypeId} (h : mapT P t = some (k, e)) : P.underlying t = some (.map k e) := by
  unfold mapT at h
  split at h
  · rename_i k' e' hu; cases h; exact hu
  · cases h
theorem run_getObj' {w : World} {b clk : Nat} {es : Array MapEntry} (h : w.heap[b]? = some (.map es clk)) : (getObj b).run P w = .ok (.map es clk) w := by
  simp [getObj, Sem.run, h]
theorem val_lookup2 {kt et : TypeId} {b : Nat} {l : List MRow} {clk : Nat} {d : BitVec 64} {u z : Value} (hm : mapT P t = some (kt, et)) (hk : DigT P kt) (hz : zeroOf P et = some z) (hx : Env.ev E x = some (.map (some b))) (hy : Env.ev E y = some u) (hu : u = Dig d) (hs : Knows w0 mods L b (.map (mapEs l) clk)) :
    Val P n w0 mods E L ⟨dst, .lookup t x y true, T, pos, after, g⟩ (.tuple #[match findD d l 0 with | some p => p.2 | none => z, .bool (findD d l 0).isSome]) := fun a w hf hi => by
  subst hu
  have hb := hs w hi
  have hmm := mapT_spec hm
  obtain ⟨inf, hinf, hz'⟩ := zeroOf_spec hz
  have hfk := run_findKey_dig hk d w l
  have hck := fun em => run_checkKey_dig hk d w em
  cases hfd : findD d l 0 with
  | none =>
    rw [hfd] at hfk
    simp [execOp, Instr.lookup, hf.eval hx, hf.eval hy, run_underlying hmm, run_getObj' hb, hck, hfk, zeroValue, typeInfo, hinf, hz']
  | some p =>
    obtain ⟨i, v⟩ := p
    rw [hfd] at hfk
    simp [execOp, Instr.lookup, hf.eval hx, hf.eval hy, run_underlying hmm, run_getObj' hb, hck, hfk]
theorem gs_makeMap {ops : List Oper} {Q : Exit → Act → World → Prop} {K : Act → World → Prop} {d : Nat} (hw : Env.wants E ops g = some true) (hn : Nat.ble (d + 1) n = true)
    (h : ∀ b, GX n w0 mods K ((d, .map (some b)) :: E) (⟨b, .map (mapEs []) 0⟩ :: L)) : GX n w0 mods (stepOp P ops Q (⟨some d, .makeMap t none, T, pos, after, g⟩) K) E L := by
  intro a w hf hi
  unfold stepOp
  rw [if_pos (hf.wants hw)]
  refine .inl ?_
  unfold Oper.wp
  have hrun : (execOp a.eval ⟨some d, .makeMap t none, T, pos, after, g⟩).run P w = .ok (.value (.map (some w.heap.size))) { w with heap := w.heap.push (.map #[] 0) } := by
    simp [execOp, Instr.makeMap]
  rw [hrun]
  exact h _ _ _ (hf.put (Nat.le_of_ble_eq_true hn)) (hi.push _)
theorem run_setObj' {w : World} {r : Nat} {es : Array MapEntry} {clock : Nat} (o : Obj) (hb : w.heap[r]? = some (.map es clock)) : (setObj r o).run P w = .ok () { w with heap := w.heap.setIfInBounds r o } := by
  simp [setObj, Sem.run, hb]
theorem Inv.turnObj {L' : List Ent} {b : Nat} {o o' : Obj} {w : World} (hi : Inv w0 mods L w) (hr : Repl L b o o' L') : Inv w0 mods L' { w with heap := w.heap.setIfInBounds b o' } := by
  have hb : b < w.heap.size := hi.lt (e := ⟨b, o⟩) hr.mem
  refine hi.turn hr ?_ (by simp) (fun k hk => ?_) rfl rfl rfl
  · simp [hb]
  · simp [Array.getElem?_setIfInBounds, Ne.symm hk]
theorem modify_map (l : List MRow) (i : Nat) (d : BitVec 64) (v : Value) (h : ∃ p, l[i]? = some p ∧ p.1 = d) :
    (mapEs l).modify i (fun e => { e with key := Dig d, val := v }) = mapEs (l.modify i fun p => (p.1, v, p.2.2)) := by
  obtain ⟨p, h1, h2⟩ := h
  unfold mapEs
  apply Array.ext'
  rw [Array.toList_modify, List.toList_toArray, List.toList_toArray]
  apply List.ext_getElem? 
  intro j
  rw [List.getElem?_modify, List.getElem?_map, List.getElem?_map, List.getElem?_modify]
  by_cases hj : i = j
  · subst hj; rw [h1]; simp [h2]
  · simp [hj]
theorem run_mapUpdate_dig {kt et : TypeId} {b : Nat} {l : List MRow} {clk : Nat} {d : BitVec 64} {v : Value} {w : World} (hm : mapT P t = some (kt, et)) (hk : DigT P kt) (hb : w.heap[b]? = some (.map (mapEs l) clk)) :
    (Instr.mapUpdate t (.map (some b)) (Dig d) v).run P w = .ok () { w with heap := w.heap.setIfInBounds b (.map (mapEs (putD d v l clk).1) (putD d v l clk).2) } := by
  have hmm := mapT_spec hm
  have hfk := run_findKey_dig hk d w l
  have hck := fun em => run_checkKey_dig hk d w em
  cases hfd : findD d l 0 with
  | none =>
    rw [hfd] at hfk
    have e : putD d v l clk = (l ++ [(d, v, clk)], clk + 1) := by unfold putD; rw [hfd]
    rw [e]
    have e2 : (mapEs l).push { key := Dig d, val := v, born := clk } = mapEs (l ++ [(d, v, clk)]) := by
      unfold mapEs; apply Array.ext'; simp
    simp only [Instr.mapUpdate, Sem.run_bind, run_underlying hmm, Result.andThen_ok, run_getObj' hb, hck, hfk, run_setObj' _ hb, e2]
  | some q =>
    obtain ⟨i, u⟩ := q
    rw [hfd] at hfk
    have e : putD d v l clk = (l.modify i fun p => (p.1, v, p.2.2), clk) := by unfold putD; rw [hfd]
    rw [e]
    obtain ⟨k, hik, p, h1, h2, h3⟩ := findD_ge d l 0 i u hfd
    obtain rfl : i = k := by omega
    have hkey : (((mapEs l)[i]?).map (·.key)).getD (Dig d) = Dig d := by
      unfold mapEs; simp [h1, h2]
    have hst : (Instr.keyThatStays (Dig d) (Dig d)).run P w = .ok (Dig d) w := by
      unfold Instr.keyThatStays; rw [if_pos (sameBits_dig d)]; rfl
    have e2 := modify_map l i d v ⟨p, h1, h2⟩
    simp only [Instr.mapUpdate, Sem.run_bind, run_underlying hmm, Result.andThen_ok, run_getObj' hb, hck, hfk, hkey, hst, run_setObj' _ hb, e2]
theorem gs_mapUpdate {ops : List Oper} {Q : Exit → Act → World → Prop} {K : Act → World → Prop} {L' : List Ent} {kt et : TypeId} {b : Nat} {l : List MRow} {clk : Nat} {d : BitVec 64} {u v : Value} (hm : mapT P t = some (kt, et)) (hk : DigT P kt)
    (hx : Env.ev E x = some (.map (some b))) (hy : Env.ev E y = some u) (hu : u = Dig d) (hz : Env.ev E z = some v) (hw : Env.wants E ops g = some true)
    (hr : Repl L b (.map (mapEs l) clk) (.map (mapEs (putD d v l clk).1) (putD d v l clk).2) L')
    (h : GX n w0 mods K E L') : GX n w0 mods (stepOp P ops Q (⟨none, .mapUpdate t x y z, T, pos, after, g⟩) K) E L := by
  intro a w hf hi
  subst hu
  unfold stepOp
  rw [if_pos (hf.wants hw)]
  refine .inl ?_
  unfold Oper.wp
  have hrun : (execOp a.eval ⟨none, .mapUpdate t x y z, T, pos, after, g⟩).run P w = .ok .skip { w with heap := w.heap.setIfInBounds b (.map (mapEs (putD d v l clk).1) (putD d v l clk).2) } := by
    simp [execOp, hf.eval hx, hf.eval hy, hf.eval hz, run_mapUpdate_dig hm hk (hi.has _ hr.mem)]
  rw [hrun]
  exact h _ _ hf (hi.turnObj hr)
theorem erase_map {α β : Type} (f : α → β) : ∀ (l : List α) (j : Nat), (l.map f).eraseIdx j = (l.eraseIdx j).map f
  | [], _ => by simp
  | _ :: _, 0 => by simp
  | a :: l, j + 1 => by rw [List.map_cons, List.eraseIdx_cons_succ, List.eraseIdx_cons_succ, List.map_cons, erase_map f l j]
theorem gs_delete {ops : List Oper} {Q : Exit → Act → World → Prop} {K : Act → World → Prop} {L' : List Ent} {kt et kt' dd : TypeId} {b : Nat} {l : List MRow} {clk : Nat} {d : BitVec 64} {u : Value} (hm : mapT P t = some (kt, et)) (hk : DigT P kt)
    (hx : Env.ev E x = some (.map (some b))) (hy : Env.ev E y = some u) (hu : u = Dig d) (hw : Env.wants E ops g = some true) (hn : Nat.ble (dd + 1) n = true)
    (hr : Repl L b (.map (mapEs l) clk) (.map (mapEs (dropD d l)) clk) L')
    (h : GX n w0 mods K ((dd, .tuple #[]) :: E) L') : GX n w0 mods (stepOp P ops Q (⟨some dd, .call ⟨.builtin .delete, #[x, y], #[t, kt']⟩, T, pos, after, g⟩) K) E L := by
  intro a w hf hi
  subst hu
  unfold stepOp
  rw [if_pos (hf.wants hw)]
  refine .inl ?_
  unfold Oper.wp
  have hb := hi.has _ hr.mem
  have hb : w.heap[b]? = some (.map (mapEs l) clk) := hb
  have hmm := mapT_spec hm
  have hfk := run_findKey_dig hk d w l
  have hck := fun em => run_checkKey_dig hk d w em
  have hrun : (execOp a.eval ⟨some dd, .call ⟨.builtin .delete, #[x, y], #[t, kt']⟩, T, pos, after, g⟩).run P w = .ok (.value (.tuple #[])) { w with heap := w.heap.setIfInBounds b (.map (mapEs (dropD d l)) clk) } := by
    cases hfd : findD d l 0 with
    | none =>
      rw [hfd] at hfk
      have e : dropD d l = l := by unfold dropD; rw [hfd]
      rw [e]
      simp [execOp, resolve, invoke, builtin, Builtin.delete_, hf.eval hx, hf.eval hy, run_underlying hmm, run_getObj' hb, hck, hfk, run_setObj' _ hb]
    | some q =>
      obtain ⟨i, v⟩ := q
      rw [hfd] at hfk
      have e : dropD d l = l.eraseIdx i := by unfold dropD; rw [hfd]
      have e2 : (mapEs l).eraseIdxIfInBounds i = mapEs (l.eraseIdx i) := by
        unfold mapEs; apply Array.ext'; simp [erase_map]
      rw [e]
      simp [execOp, resolve, invoke, builtin, Builtin.delete_, hf.eval hx, hf.eval hy, run_underlying hmm, run_getObj' hb, hck, hfk, run_setObj' _ hb, e2]
  rw [hrun]
  exact h _ _ (hf.put (Nat.le_of_ble_eq_true hn)) (hi.turnObj hr)
end
end Go.Eng
