/-
  Engine, part Tc: chapter 37: what is put and taken back.
-/
import Derived.Test.YtddckbhlfeegoaaEngTb
namespace Go.Eng
open Go
set_option linter.unusedVariables false
set_option linter.unusedSimpArgs false
theorem gx_ps {n : Nat} {w0 : World} {mods : List Nat} {E : Env} {L M N : List Ent} {K : Act → World → Prop} (p : List.Perm L M) (s : List.Sublist N M) (g : GX n w0 mods K E N) : GX n w0 mods K E L := fun a w hf hi => g a w hf ((hi.perm p).sub s)
theorem set_spIJ (w : List Int) (junk : List Value) (j : Nat) (v : Int) (h : j < w.length) : splice (w.map I64 ++ junk) (0 + j * 1) [I64 v] = (w.set j v).map I64 ++ junk := by
  rw [splice_one _ _ _ (by rw [List.length_append, List.length_map]; omega), Nat.zero_add, Nat.mul_one, List.set_append_left _ _ (by rw [List.length_map]; exact h), List.map_set]
theorem set_spBJ (w : List Bool) (junk : List Value) (j : Nat) (v : Bool) (h : j < w.length) : splice (w.map Value.bool ++ junk) (0 + j * 1) [.bool v] = (w.set j v).map Value.bool ++ junk := by
  rw [splice_one _ _ _ (by rw [List.length_append, List.length_map]; omega), Nat.zero_add, Nat.mul_one, List.set_append_left _ _ (by rw [List.length_map]; exact h), List.map_set]
/-- The first k, what was added to each. -/
def addL : List Int → List Int → List Int
  | a :: l, b :: p => (a + b) :: addL l p
  | _, _ => []
theorem addL_len : ∀ {l p : List Int}, l.length = p.length → (addL l p).length = l.length
  | [], [], _ => rfl
  | a :: l, b :: p, h => by unfold addL; simp [addL_len (l := l) (p := p) (by simpa using h)]
theorem addL_get : ∀ {l p : List Int} {k : Nat} (h1 : k < l.length) (h2 : k < p.length) (h3 : k < (addL l p).length), (addL l p)[k] = l[k] + p[k]
  | a :: l, b :: p, 0, _, _, _ => rfl
  | a :: l, b :: p, k + 1, h1, h2, h3 => by
    simp only [addL, List.getElem_cons_succ]
    exact addL_get (by simpa using h1) (by simpa using h2) (by simpa [addL] using h3)
theorem addL_sum : ∀ {l p : List Int}, l.length = p.length → (addL l p).sum = l.sum + p.sum
  | [], [], _ => rfl
  | a :: l, b :: p, h => by
    unfold addL
    rw [List.sum_cons, List.sum_cons, List.sum_cons, addL_sum (by simpa using h)]; omega
def addT (l p : List Int) (k : Nat) : List Int := (addL l p).take k ++ l.drop k
theorem addT_zero (l p : List Int) : addT l p 0 = l := by simp [addT]
theorem addT_len {l p : List Int} (h : l.length = p.length) {k : Nat} (hk : k ≤ l.length) : (addT l p k).length = l.length := by
  unfold addT; rw [List.length_append, List.length_take, addL_len h, List.length_drop]; omega
theorem addT_all {l p : List Int} (h : l.length = p.length) : addT l p l.length = addL l p := by
  unfold addT; rw [List.take_of_length_le (by rw [addL_len h]; exact Nat.le_refl _)]; simp
theorem addT_at {l p : List Int} (h : l.length = p.length) {k : Nat} (hk : k < l.length) (hk2 : k < (addT l p k).length) : (addT l p k)[k] = l[k] := by
  have e : (addT l p k)[k]? = some l[k] := by
    unfold addT
    rw [List.getElem?_append_right (by rw [List.length_take, addL_len h]; omega), List.length_take, addL_len h, Nat.min_eq_left (Nat.le_of_lt hk), Nat.sub_self, List.getElem?_drop, Nat.add_zero, List.getElem?_eq_getElem hk]
  exact (List.getElem?_eq_some_iff.1 e).2
theorem addT_step {l p : List Int} (h : l.length = p.length) {k : Nat} (hk : k < l.length) : (addT l p k).set k (l[k] + p[k]'(by omega)) = addT l p (k + 1) := by
  unfold addT
  have hll := addL_len h
  rw [List.set_append_right _ _ (by rw [List.length_take, hll]; omega), List.length_take, hll, Nat.min_eq_left (by omega), Nat.sub_self, List.drop_eq_getElem_cons hk, List.set_cons_zero, List.take_succ_eq_append_getElem (by omega), addL_get hk (by omega) (by omega)]
  simp
def putE (s : BS) (now seat amt : Int) : Int :=
  match s.op with
  | none => 9
  | some o => if decide (0 ≤ seat ∧ seat < (s.st.length : Int)) then (if decide (heightP now) then (if decide (¬ o.un < now) then (if !(o.pu.getD seat.toNat false) then (if decide (amt = o.ad.getD seat.toNat 0) then 0 else 22) else 7) else 19) else 2) else 28
def putS (s : BS) (now seat amt : Int) : BS :=
  if putE s now seat amt = 0 then
    match s.op with
    | none => s
    | some o => if false ∈ o.pu.set seat.toNat true then ⟨s.st, s.nm, some ⟨o.tb, o.num, o.ad, o.un, o.pu.set seat.toNat true⟩⟩ else ⟨addL s.st o.ad, s.nm, none⟩
  else s
def backE (s : BS) (now seat : Int) : Int :=
  match s.op with
  | none => 9
  | some o => if decide (0 ≤ seat ∧ seat < (s.st.length : Int)) then (if decide (heightP now) then (if decide (o.un < now) then (if decide (0 < (laidL o.ad o.pu).getD seat.toNat 0) then 0 else 21) else 20) else 2) else 28
def backV (s : BS) (now seat : Int) : Int := if backE s now seat = 0 then (match s.op with | none => 0 | some o => o.ad.getD seat.toNat 0) else 0
def backS (s : BS) (now seat : Int) : BS :=
  if backE s now seat = 0 then
    match s.op with
    | none => s
    | some o => if (laidL o.ad (o.pu.set seat.toNat false)).sum = 0 then ⟨s.st, s.nm, none⟩ else ⟨s.st, s.nm, some ⟨o.tb, o.num, o.ad, o.un, o.pu.set seat.toNat false⟩⟩
  else s
theorem put_ok {s : BS} {o : Bo} {now seat amt : Int} (ho : s.op = some o) (h : putE s now seat amt = 0) : (0 ≤ seat ∧ seat < (s.st.length : Int)) ∧ heightP now ∧ ¬ o.un < now ∧ o.pu.getD seat.toNat false = false ∧ amt = o.ad.getD seat.toNat 0 := by
  unfold putE at h
  rw [ho] at h
  simp only at h
  by_cases h1 : 0 ≤ seat ∧ seat < (s.st.length : Int)
  · by_cases h2 : heightP now
    · by_cases h3 : ¬ o.un < now
      · by_cases h4 : o.pu.getD seat.toNat false = false
        · by_cases h5 : amt = o.ad.getD seat.toNat 0
          · exact ⟨h1, h2, h3, h4, h5⟩
          · rw [decide_eq_true h1, decide_eq_true h2, decide_eq_true h3, h4, decide_eq_false h5] at h; cases h
        · rw [decide_eq_true h1, decide_eq_true h2, decide_eq_true h3, (Bool.of_not_eq_false h4 : o.pu.getD seat.toNat false = true)] at h; cases h
      · rw [decide_eq_true h1, decide_eq_true h2, decide_eq_false h3] at h; cases h
    · rw [decide_eq_true h1, decide_eq_false h2] at h; cases h
  · rw [decide_eq_false h1] at h; cases h
theorem back_ok {s : BS} {o : Bo} {now seat : Int} (ho : s.op = some o) (h : backE s now seat = 0) : (0 ≤ seat ∧ seat < (s.st.length : Int)) ∧ heightP now ∧ o.un < now ∧ 0 < (laidL o.ad o.pu).getD seat.toNat 0 := by
  unfold backE at h
  rw [ho] at h
  simp only at h
  by_cases h1 : 0 ≤ seat ∧ seat < (s.st.length : Int)
  · by_cases h2 : heightP now
    · by_cases h3 : o.un < now
      · by_cases h4 : 0 < (laidL o.ad o.pu).getD seat.toNat 0
        · exact ⟨h1, h2, h3, h4⟩
        · rw [decide_eq_true h1, decide_eq_true h2, decide_eq_true h3, decide_eq_false h4] at h; cases h
      · rw [decide_eq_true h1, decide_eq_true h2, decide_eq_false h3] at h; cases h
    · rw [decide_eq_true h1, decide_eq_false h2] at h; cases h
  · rw [decide_eq_false h1] at h; cases h
theorem getD_nat {α : Type} {l : List α} {i : Nat} {d : α} (h : i < l.length) : l.getD ((i : Int).toNat) d = l[i] := by
  rw [Int.toNat_natCast, List.getD_eq_getElem?_getD, List.getElem?_eq_getElem h]; rfl
theorem put_perm (b4 b6 k p q s : Ent) (NA : List Ent) : List.Perm (b4 :: b6 :: k :: p :: q :: s :: NA) ((k :: p :: ([s] ++ (NA ++ [q]))) ++ [b4, b6]) := by
  have h : List.Perm ([b4, b6] ++ ([k, p] ++ ([q] ++ ([s] ++ NA)))) (([k, p] ++ ([s] ++ (NA ++ [q]))) ++ [b4, b6]) := by
    refine List.perm_append_comm.trans (List.Perm.append_right _ (List.Perm.append_left _ ?_))
    refine List.perm_append_comm.trans ?_
    rw [List.append_assoc]
  simpa using h
theorem blk_set {e b n c : Nat} {xs ys junk : List Value} (h : Own e 1 (some ⟨b, 0, none⟩) n c xs [⟨b, .cells (xs ++ junk).toArray e (0, 0)⟩]) (hl : ys.length = xs.length) : Own e 1 (some ⟨b, 0, none⟩) n c ys [⟨b, .cells (ys ++ junk).toArray e (0, 0)⟩] := by
  have h1 := h.len
  have h2 := h.cap
  refine .blk (by omega) ?_ h2
  obtain ⟨j2, e1, _, h3, _⟩ := own_blk h
  simp only [List.cons.injEq, Ent.mk.injEq, Obj.cells.injEq, and_true, true_and] at e1
  have e2 := congrArg Array.toList e1
  simp at e2
  subst e2
  rw [List.length_append] at h3 ⊢
  omega
theorem bk_put {TB TQ ti to b : Nat} {st : List Int} {nm : Int} {o : Bo} {pu' : List Bool} {sa aa : Option Addr} {sc ac p q pc : Nat} {NS NA : List Ent} {pj : List Value} (sx : Own ti 1 sa st.length sc (st.map I64) NS) (hm : Pm ti to o aa ac NA (some ⟨q, 0, none⟩) pc [⟨q, .cells (o.pu.map Value.bool ++ pj).toArray to (0, 0)⟩]) (hl : pu'.length = o.pu.length) :
    BK TB TQ ti to b ⟨st, nm, some ⟨o.tb, o.num, o.ad, o.un, pu'⟩⟩ (bkE TB b (.slice sa st.length sc) nm (.pointer (some ⟨p, 0, none⟩)) :: pdE TQ p o.tb o.num (.slice aa o.ad.length ac) o.un (.slice (some ⟨q, 0, none⟩) o.pu.length pc) :: (NS ++ (NA ++ [⟨q, .cells (pu'.map Value.bool ++ pj).toArray to (0, 0)⟩]))) := by
  refine ⟨sa, sc, NS, sx, p, aa, ac, NA, some ⟨q, 0, none⟩, pc, [⟨q, .cells (pu'.map Value.bool ++ pj).toArray to (0, 0)⟩], ⟨hm.ad, ?_⟩, ?_⟩
  · have := blk_set (ys := pu'.map Value.bool) hm.pu (by rw [List.length_map, List.length_map, hl])
    show Own to 1 _ pu'.length _ _ _
    rw [hl]; exact this
  · show _ = bk1 TB TQ b sa st.length sc nm p ⟨o.tb, o.num, o.ad, o.un, pu'⟩ aa ac _ _ NS NA _
    simp only [bk1, hl]
theorem bk_last {TB TQ ti to b : Nat} {st st' : List Int} {nm : Int} {s0 sc : Nat} {sj : List Value} (sx : Own ti 1 (some ⟨s0, 0, none⟩) st.length sc (st.map I64) [⟨s0, .cells (st.map I64 ++ sj).toArray ti (0, 0)⟩]) (hl : st'.length = st.length) :
    BK TB TQ ti to b ⟨st', nm, none⟩ (bkE TB b (.slice (some ⟨s0, 0, none⟩) st.length sc) nm (.pointer none) :: [⟨s0, .cells (st'.map I64 ++ sj).toArray ti (0, 0)⟩]) := by
  refine ⟨some ⟨s0, 0, none⟩, sc, [⟨s0, .cells (st'.map I64 ++ sj).toArray ti (0, 0)⟩], ?_, ?_⟩
  · have := blk_set (ys := st'.map I64) sx (by rw [List.length_map, List.length_map, hl])
    show Own ti 1 _ st'.length _ _ _
    rw [hl]; exact this
  · show _ = bk0 TB b _ st'.length sc nm _
    simp only [bk0, hl]
theorem gx_ps3 {n : Nat} {w0 : World} {mods : List Nat} {E : Env} {L N : List Ent} {K : Act → World → Prop} {F : List Ent → List Ent} (p : ∃ R, List.Perm L (F R)) (s : ∀ R, List.Sublist N (F R)) (g : GX n w0 mods K E N) : GX n w0 mods K E L := by
  obtain ⟨R, p⟩ := p
  exact gx_ps p (s R) g
theorem back_perm (l b3 b5 k p q : Ent) (NA NS : List Ent) : List.Perm (l :: b3 :: b5 :: k :: p :: q :: (NA ++ NS)) ((k :: p :: (NS ++ (NA ++ [q]))) ++ [l, b3, b5]) := by
  have h : List.Perm ([l, b3, b5] ++ ([k, p] ++ ([q] ++ (NA ++ NS)))) (([k, p] ++ (NS ++ (NA ++ [q]))) ++ [l, b3, b5]) := by
    refine List.perm_append_comm.trans (List.Perm.append_right _ (List.Perm.append_left _ ?_))
    refine List.perm_append_comm.trans ?_
    refine (List.Perm.append_right _ List.perm_append_comm).trans ?_
    rw [List.append_assoc]
  simpa using h
theorem back_perm0 (l b3 b5 k p q : Ent) (NA NS : List Ent) : List.Perm (l :: b3 :: b5 :: k :: p :: q :: (NA ++ NS)) ((k :: NS) ++ (l :: b3 :: b5 :: p :: q :: NA)) := by
  have h := back_perm l b3 b5 k p q NA NS
  refine h.trans ?_
  rw [List.cons_append, List.cons_append, List.cons_append]
  refine .cons _ ?_
  rw [List.append_assoc, List.append_assoc]
  refine (List.perm_middle (l₁ := NS) (a := p) (l₂ := NA ++ ([q] ++ [l, b3, b5]))).symm.trans ?_
  refine List.Perm.append_left _ ?_
  have h2 : List.Perm ([p] ++ (NA ++ [q, l, b3, b5])) ([l, b3, b5] ++ ([p] ++ ([q] ++ NA))) := by
    have a1 : List.Perm (NA ++ [q, l, b3, b5]) ([q] ++ NA ++ [l, b3, b5]) := by
      rw [show ([q, l, b3, b5] : List Ent) = [q] ++ [l, b3, b5] from rfl, ← List.append_assoc]
      exact List.Perm.append_right _ List.perm_append_comm
    refine (List.Perm.append_left _ a1).trans ?_
    rw [← List.append_assoc]
    exact List.perm_append_comm
  simpa using h2
def adL (s : BS) : List Int := match s.op with | none => [] | some o => o.ad
def heldS (s : BS) : Int := match s.op with | none => s.st.sum | some o => s.st.sum + (laidL o.ad o.pu).sum
def bo0 : Bo := ⟨0#64, 0, [], 0, []⟩
def opB (s : BS) : Bo := s.op.getD bo0
theorem putS_ok {s : BS} {now seat amt : Int} (h : BOk s) : BOk (putS s now seat amt) := by
  unfold putS
  split
  · split
    · exact h
    · rename_i o ho
      obtain ⟨h1, h2, h3, h4⟩ := h.ad o ho
      have hsp : rightP o.ad.sum := by
        have := sumT_bound h3 o.ad.length
        rw [sumT_all] at this
        have h5 := sumT_bound h.st s.st.length
        rw [sumT_all] at h5
        obtain ⟨h6, h7⟩ := h4
        exact ⟨this.1, by omega⟩
      split
      · exact ⟨h.n2, h.n8, h.st, h.sm, fun o' ho' => by cases ho'; exact ⟨h1, (List.length_set ..).trans h2, h3, h4⟩⟩
      · have hl := addL_len h1.symm
        refine ⟨by show 2 ≤ (addL s.st o.ad).length; rw [hl]; exact h.n2, by show (addL s.st o.ad).length ≤ 8; rw [hl]; exact h.n8, ?_, ?_, fun o' ho' => by cases ho'⟩
        · intro x hx
          have hs : rightP (addL s.st o.ad).sum := by rw [addL_sum h1.symm]; exact h4
          obtain ⟨k, hk, rfl⟩ := List.getElem_of_mem hx
          have hk1 : k < s.st.length := by have : k < (addL s.st o.ad).length := hk; omega
          have hk2 : k < o.ad.length := by omega
          have e := addL_get hk1 hk2 hk
          have q1 := h.st _ (List.getElem_mem hk1)
          have q2 := h3 _ (List.getElem_mem hk2)
          have nn : ∀ y ∈ addL s.st o.ad, 0 ≤ y := fun y hy => by
            obtain ⟨j, hj, rfl⟩ := List.getElem_of_mem hy
            have hj1 : j < s.st.length := by omega
            have hj2 : j < o.ad.length := by omega
            rw [addL_get hj1 hj2 hj]
            have r1 := h.st _ (List.getElem_mem hj1)
            have r2 := h3 _ (List.getElem_mem hj2)
            obtain ⟨r3, _⟩ := r1
            obtain ⟨r4, _⟩ := r2
            omega
          have le : ∀ (l : List Int), (∀ y ∈ l, 0 ≤ y) → ∀ y ∈ l, y ≤ l.sum := by
            intro l
            induction l with
            | nil => intro _ y hy; cases hy
            | cons a l ih =>
              intro hn y hy
              have h0 := hn a (.head _)
              have hs : 0 ≤ l.sum := by
                clear ih hy
                induction l with
                | nil => simp
                | cons b l ih2 =>
                  rw [List.sum_cons]
                  have := hn b (.tail _ (.head _))
                  have := ih2 (fun y hy => by
                    rcases List.mem_cons.1 hy with rfl | hy
                    · exact h0
                    · exact hn y (.tail _ (.tail _ hy)))
                  omega
              rw [List.sum_cons]
              rcases List.mem_cons.1 hy with rfl | hy
              · omega
              · have := ih (fun y hy => hn y (.tail _ hy)) y hy
                omega
          have := le _ nn _ hx
          obtain ⟨_, hs2⟩ := hs
          exact ⟨nn _ hx, by omega⟩
        · show rightP (addL s.st o.ad).sum
          rw [addL_sum h1.symm]; exact h4
  · exact h
theorem backS_ok {s : BS} {now seat : Int} (h : BOk s) : BOk (backS s now seat) := by
  unfold backS
  split
  · split
    · exact h
    · rename_i o ho
      obtain ⟨h1, h2, h3, h4⟩ := h.ad o ho
      split
      · exact ⟨h.n2, h.n8, h.st, h.sm, fun o' ho' => by cases ho'⟩
      · exact ⟨h.n2, h.n8, h.st, h.sm, fun o' ho' => by cases ho'; exact ⟨h1, (List.length_set ..).trans h2, h3, h4⟩⟩
  · exact h
end Go.Eng
