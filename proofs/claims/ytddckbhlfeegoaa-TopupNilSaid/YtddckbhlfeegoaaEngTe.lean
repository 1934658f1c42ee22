/-
  Engine, part Te: chapter 37: what is held.
-/
import Derived.Test.YtddckbhlfeegoaaEngTd
namespace Go.Eng
open Go
set_option linter.unusedVariables false
set_option linter.unusedSimpArgs false
theorem laid_pu0 : ∀ rad : List Int, (laidL rad (pu0 rad)).sum = 0
  | [] => rfl
  | a :: l => by
    show ((if decide (a = 0) then a else 0) :: laidL l (pu0 l)).sum = 0
    rw [List.sum_cons, laid_pu0 l]
    by_cases h : a = 0 <;> simp [h]
theorem laid_all : ∀ {l : List Int} {p : List Bool}, l.length = p.length → ¬ false ∈ p → laidL l p = l
  | [], [], _, _ => rfl
  | a :: l, b :: p, h, hf => by
    have hb : b = true := by cases b with | true => rfl | false => exact absurd (.head _) hf
    subst hb
    show a :: laidL l p = a :: l
    rw [laid_all (by simpa using h) (fun hm => hf (.tail _ hm))]
theorem laid_on : ∀ {l : List Int} {p : List Bool} {i : Nat} (h1 : i < l.length) (h2 : i < p.length), p[i] = false → (laidL l (p.set i true)).sum = (laidL l p).sum + l[i]
  | a :: l, b :: p, 0, _, _, h => by
    have h : b = false := h
    subst h
    show (a :: laidL l p).sum = (0 :: laidL l p).sum + a
    rw [List.sum_cons, List.sum_cons]; omega
  | a :: l, b :: p, i + 1, h1, h2, h => by
    have ih := laid_on (l := l) (p := p) (i := i) (by simpa using h1) (by simpa using h2) h
    show ((if b then a else 0) :: laidL l (p.set i true)).sum = ((if b then a else 0) :: laidL l p).sum + l[i]'(by simpa using h1)
    rw [List.sum_cons, List.sum_cons, ih]; omega
theorem laid_off : ∀ {l : List Int} {p : List Bool} {i : Nat} (h1 : i < l.length) (h2 : i < p.length), p[i] = true → (laidL l (p.set i false)).sum = (laidL l p).sum - l[i]
  | a :: l, b :: p, 0, _, _, h => by
    have h : b = true := h
    subst h
    show (0 :: laidL l p).sum = (a :: laidL l p).sum - a
    rw [List.sum_cons, List.sum_cons]; omega
  | a :: l, b :: p, i + 1, h1, h2, h => by
    have ih := laid_off (l := l) (p := p) (i := i) (by simpa using h1) (by simpa using h2) h
    show ((if b then a else 0) :: laidL l (p.set i false)).sum = ((if b then a else 0) :: laidL l p).sum - l[i]'(by simpa using h1)
    rw [List.sum_cons, List.sum_cons, ih]; omega
theorem right_sum {l : List Int} (h : ∀ x ∈ l, rightP x) : 0 ≤ l.sum := by
  have := sumT_bound h l.length
  rw [sumT_all] at this; exact this.1
theorem laid_le : ∀ {l : List Int} {p : List Bool}, (∀ x ∈ l, rightP x) → (laidL l p).sum ≤ l.sum
  | [], _, _ => by simp [laidL]
  | a :: l, [], h => by
    show ([] : List Int).sum ≤ _
    have := right_sum h
    simpa using this
  | a :: l, b :: p, h => by
    have ih := laid_le (l := l) (p := p) (fun x hx => h x (.tail _ hx))
    have ha := h a (.head _)
    obtain ⟨h0, _⟩ := ha
    show ((if b then a else 0) :: laidL l p).sum ≤ (a :: l).sum
    rw [List.sum_cons, List.sum_cons]
    cases b <;> simp <;> omega
theorem held_bound {s : BS} (h : BOk s) : s.st.sum ≤ heldS s ∧ 0 ≤ s.st.sum ∧ heldS s ≤ 1125899906842624 := by
  have h0 := right_sum h.st
  have hs := h.sm
  unfold heldS
  split
  · obtain ⟨_, h2⟩ := hs
    exact ⟨Int.le_refl _, h0, h2⟩
  · rename_i o ho
    obtain ⟨h1, h2, h3, h4⟩ := h.ad o ho
    have h5 := right_sum (laid_right (p := o.pu) h3)
    have h6 := laid_le (p := o.pu) h3
    obtain ⟨_, h7⟩ := h4
    exact ⟨by omega, h0, by omega⟩
theorem held_ask {s : BS} {now : Int} {rt : BitVec 64} {rn ru : Int} {rad : List Int} : heldS (askS s now rt rn ru rad) = heldS s := by
  unfold askS
  split
  · rename_i he
    obtain ⟨_, _, h4, _⟩ := ask_ok he
    show s.st.sum + (laidL rad (pu0 rad)).sum = heldS s
    rw [laid_pu0]
    unfold heldS
    unfold askC4 at h4
    cases ho : s.op with
    | none => simp
    | some o =>
      rw [ho] at h4
      have := (of_decide_eq_true h4).2
      simp only
      omega
  · rfl
theorem held_put {s : BS} {now seat amt : Int} (h : BOk s) : (putE s now seat amt = 0 → heldS (putS s now seat amt) = heldS s + amt ∧ 0 ≤ amt ∧ amt ≤ 1125899906842624) ∧ (putE s now seat amt ≠ 0 → putS s now seat amt = s) := by
  refine ⟨fun he => ?_, fun he => by unfold putS; rw [if_neg he]⟩
  cases ho : s.op with
  | none => unfold putE at he; rw [ho] at he; cases he
  | some o =>
    obtain ⟨h1, h2, h3, h4⟩ := h.ad o ho
    obtain ⟨r1, _, _, r4, r5⟩ := put_ok ho he
    obtain ⟨i, rfl⟩ : ∃ i : Nat, seat = (i : Int) := ⟨seat.toNat, by omega⟩
    have hi : i < o.ad.length := by omega
    have hp : i < o.pu.length := by omega
    rw [getD_nat hp] at r4
    rw [getD_nat hi] at r5
    subst r5
    have hr := h3 _ (List.getElem_mem hi)
    have hon := laid_on hi hp r4
    refine ⟨?_, hr.1, hr.2⟩
    unfold putS
    rw [if_pos he]
    simp only [ho, Int.toNat_natCast]
    have hh : heldS s = s.st.sum + (laidL o.ad o.pu).sum := by unfold heldS; rw [ho]
    split
    · show s.st.sum + (laidL o.ad (o.pu.set i true)).sum = _
      rw [hon, hh]; omega
    · rename_i hf
      show (addL s.st o.ad).sum = _
      rw [addL_sum h1.symm, hh]
      have := laid_all (l := o.ad) (p := o.pu.set i true) (by rw [List.length_set]; omega) hf
      rw [this] at hon
      omega
theorem held_back {s : BS} {now seat : Int} (h : BOk s) : heldS (backS s now seat) = heldS s - backV s now seat ∧ (backE s now seat = 0 ↔ 0 < backV s now seat) ∧ 0 ≤ backV s now seat ∧ backV s now seat ≤ 1125899906842624 := by
  by_cases he : backE s now seat = 0
  · cases ho : s.op with
    | none => unfold backE at he; rw [ho] at he; cases he
    | some o =>
      obtain ⟨h1, h2, h3, h4⟩ := h.ad o ho
      obtain ⟨r1, _, _, r4⟩ := back_ok ho he
      obtain ⟨i, rfl⟩ : ∃ i : Nat, seat = (i : Int) := ⟨seat.toNat, by omega⟩
      have hi : i < o.ad.length := by omega
      have hp : i < o.pu.length := by omega
      have hl : i < (laidL o.ad o.pu).length := by rw [laid_len (by omega)]; exact hi
      rw [getD_nat hl, laid_get hi hp hl] at r4
      have hpt : o.pu[i] = true := by
        cases hc : o.pu[i] with
        | true => rfl
        | false => rw [hc] at r4; simp at r4
      rw [hpt, if_pos rfl] at r4
      have hoff := laid_off hi hp hpt
      have hv : backV s now (i : Int) = o.ad[i] := by unfold backV; rw [if_pos he, ho]; exact getD_nat hi
      have hr := h3 _ (List.getElem_mem hi)
      have hh : heldS s = s.st.sum + (laidL o.ad o.pu).sum := by unfold heldS; rw [ho]
      rw [hv]
      refine ⟨?_, ⟨fun _ => r4, fun _ => he⟩, hr.1, hr.2⟩
      unfold backS
      rw [if_pos he]
      simp only [ho, Int.toNat_natCast]
      split
      · rename_i hz
        show s.st.sum = _
        rw [hh]; omega
      · show s.st.sum + (laidL o.ad (o.pu.set i false)).sum = _
        rw [hh]; omega
  · have hv : backV s now seat = 0 := by unfold backV; rw [if_neg he]
    have hs : backS s now seat = s := by unfold backS; rw [if_neg he]
    rw [hv, hs]
    exact ⟨by omega, ⟨fun h => absurd h he, fun h => absurd h (Int.lt_irrefl 0)⟩, Int.le_refl _, by omega⟩
theorem held_new (l : List Int) : heldS ⟨l, -1, none⟩ = l.sum := rfl
structure Ac where
  k : Int
  h : Int
  s : Int
  m : Int
  t : BitVec 64
  num : Int
  un : Int
  ra : Option Addr
  n : Nat
  c : Nat
  ad : List Int
@[reducible] def Ac.L (a : Ac) : List Value := I64 a.k :: I64 a.h :: I64 a.s :: I64 a.m :: raL a.t a.num (.slice a.ra a.n a.c) a.un
theorem ac_len (a : Ac) : a.L.length = 15 := rfl
theorem back_flip {s : BS} {now seat : Int} (h : BOk s) : (decide (backE s now seat = 0) != decide (backV s now seat > 0)) = false := by
  have := (held_back (now := now) (seat := seat) h).2.1
  rw [decide_eq_decide.2 this]
  exact bne_self_eq_false _
end Go.Eng
