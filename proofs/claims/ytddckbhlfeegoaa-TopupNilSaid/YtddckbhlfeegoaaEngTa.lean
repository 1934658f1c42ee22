/-
  Engine, part Ta: chapter 37: rules that are asked in order; sums, what was laid.
-/
import Derived.Test.YtddckbhlfeegoaaEngWd
namespace Go.Eng
open Go
set_option linter.unusedVariables false
set_option linter.unusedSimpArgs false
theorem pure_pre {P : Program} {f : FuncId} {args : Array Value} {Pre Pre' : World → Prop} {v : Value} (h : Pure P f args Pre v) (hp : ∀ w, Pre' w → Pre w) : Pure P f args Pre' v := fun w0 h1 h2 h3 => h w0 h1 h2 (hp _ h3)
def Stable (Pre : World → Prop) : Prop := ∀ (w0 w : World) (mods : List Nat) (L : List Ent), mods = [] → Inv w0 mods L w → Pre w0 → Pre w
theorem stable_row {pa : Option Addr} {cs : List Value} : Stable fun w => Row w [] pa cs := fun w0 w mods L hm hi h => by
  subst hm; exact row_of_sees (sees_row h) w hi
theorem stable_and {A B : World → Prop} (ha : Stable A) (hb : Stable B) : Stable fun w => A w ∧ B w := fun w0 w mods L hm hi h => ⟨ha w0 w mods L hm hi h.1, hb w0 w mods L hm hi h.2⟩
theorem stable_true : Stable fun _ => True := fun _ _ _ _ _ _ _ => trivial
structure Ru where
  f : FuncId
  caps : List Value
  er : Int
@[reducible] def Ru.L (r : Ru) : List Value := [.func (.func r.f) #[] r.caps.toArray, I64 r.er]
theorem ru_len (r : Ru) : r.L.length = 2 := rfl
/-- The rules, asked in order: what the first answers that isn't so. -/
inductive AllR (P : Program) (Pre : World → Prop) : List Ru → Int → Prop
  | nil : AllR P Pre [] 0
  | ok {r : Ru} {rs : List Ru} {e : Int} : Callable P r.f → Pure P r.f r.caps.toArray Pre (.bool true) → AllR P Pre rs e → AllR P Pre (r :: rs) e
  | stop {r : Ru} {rs : List Ru} : Callable P r.f → Pure P r.f r.caps.toArray Pre (.bool false) → AllR P Pre (r :: rs) r.er
theorem AllR.at {P : Program} {Pre : World → Prop} {rs : List Ru} {e : Int} {k : Nat} (h : AllR P Pre (rs.drop k) e) (hk : k < rs.length) :
    Callable P rs[k].f ∧ ∃ b, Pure P rs[k].f rs[k].caps.toArray Pre (.bool b) ∧ (b = true → AllR P Pre (rs.drop (k + 1)) e) ∧ (¬ b = true → e = rs[k].er) := by
  have e1 : rs.drop k = rs[k] :: rs.drop (k + 1) := (List.drop_eq_getElem_cons hk)
  rw [e1] at h
  generalize rs.drop (k + 1) = t at h
  generalize rs[k] = r at h
  cases h with
  | ok h1 h2 h3 => exact ⟨h1, true, h2, fun _ => h3, fun h => absurd rfl h⟩
  | stop h1 h2 => exact ⟨h1, false, h2, (fun h => by cases h), fun _ => rfl⟩
theorem AllR.done {P : Program} {Pre : World → Prop} {rs : List Ru} {e : Int} (h : AllR P Pre (rs.drop rs.length) e) : e = 0 := by
  rw [List.drop_length] at h
  cases h; rfl
theorem AllR.if' {P : Program} {Pre : World → Prop} {r : Ru} {rs : List Ru} {e : Int} {b : Bool} (hc : Callable P r.f) (h : Pure P r.f r.caps.toArray Pre (.bool b)) (ht : b = true → AllR P Pre rs e) : AllR P Pre (r :: rs) (if b then e else r.er) := by
  cases b with
  | true => exact .ok hc h (ht rfl)
  | false => exact .stop hc h
@[reducible] def cMax : Int := 1125899906842624
@[reducible] def rightP (n : Int) : Prop := 0 ≤ n ∧ n ≤ 1125899906842624
@[reducible] def heightP (n : Int) : Prop := 0 ≤ n ∧ n ≤ 1099511627776
def badI (l : List Int) : Int := match l.findIdx? (fun n => !decide (rightP n)) with | some i => (i : Int) | none => -1
theorem bad_at {l : List Int} {k : Nat} (hk : k < l.length) (h : ∀ j (hj : j < l.length), j < k → rightP l[j]) (hb : ¬ rightP l[k]) : badI l = (k : Int) := by
  have : l.findIdx? (fun n => !decide (rightP n)) = some k := by
    rw [List.findIdx?_eq_some_iff_getElem]
    refine ⟨hk, by rw [decide_eq_false hb]; rfl, fun j hj => ?_⟩
    have := h j (by omega) hj
    rw [decide_eq_true this]; simp
  unfold badI; rw [this]
theorem bad_none {l : List Int} (h : ∀ j (hj : j < l.length), rightP l[j]) : badI l = -1 := by
  have : l.findIdx? (fun n => !decide (rightP n)) = none := by
    rw [List.findIdx?_eq_none_iff]
    intro x hx
    obtain ⟨j, hj, rfl⟩ := List.getElem_of_mem hx
    have := h j hj
    simpa using this
  unfold badI; rw [this]
theorem bad_iff (l : List Int) : decide (0 ≤ badI l) = !decide (∀ x ∈ l, rightP x) := by
  unfold badI
  cases hf : l.findIdx? (fun n => !decide (rightP n)) with
  | none =>
    rw [List.findIdx?_eq_none_iff] at hf
    have : ∀ x ∈ l, rightP x := fun x hx => by simpa using hf x hx
    rw [decide_eq_true this]; rfl
  | some i =>
    rw [List.findIdx?_eq_some_iff_getElem] at hf
    obtain ⟨hi, h1, _⟩ := hf
    have : ¬ ∀ x ∈ l, rightP x := fun h => by simpa using (show False from by have := h _ (List.getElem_mem hi); simp [this] at h1)
    rw [decide_eq_false this]
    exact decide_eq_true (show (0 : Int) ≤ (i : Int) by omega)
def sumT (l : List Int) (k : Nat) : Int := (l.take k).sum
theorem sumT_step {l : List Int} {k : Nat} (hk : k < l.length) : sumT l (k + 1) = sumT l k + l[k] := by
  unfold sumT; rw [List.take_succ_eq_append_getElem hk, List.sum_append]; simp
theorem sumT_bound {l : List Int} (h : ∀ x ∈ l, rightP x) : ∀ k, 0 ≤ sumT l k ∧ sumT l k ≤ k * 1125899906842624
  | 0 => by simp [sumT]
  | k + 1 => by
    by_cases hk : k < l.length
    · rw [sumT_step hk]
      have h1 := sumT_bound h k
      have h2 : rightP l[k] := h _ (List.getElem_mem hk)
      obtain ⟨h3, h4⟩ := h2
      omega
    · have e : sumT l (k + 1) = sumT l k := by unfold sumT; rw [List.take_of_length_le (by omega), List.take_of_length_le (by omega)]
      have h1 := sumT_bound h k
      rw [e]; omega
theorem sumT_all (l : List Int) : sumT l l.length = l.sum := by unfold sumT; rw [List.take_length]
/-- A raise's cells. -/
@[reducible] def raL (t : BitVec 64) (num : Int) (bx : Value) (un : Int) : List Value := U8 (bt t 0) :: U8 (bt t 1) :: U8 (bt t 2) :: U8 (bt t 3) :: U8 (bt t 4) :: U8 (bt t 5) :: U8 (bt t 6) :: U8 (bt t 7) :: I64 num :: bx :: I64 un :: []
/-- What was laid: of those that laid, their sums. -/
def laidL : List Int → List Bool → List Int
  | a :: l, b :: p => (if b then a else 0) :: laidL l p
  | _, _ => []
theorem laid_len : ∀ {l : List Int} {p : List Bool}, l.length = p.length → (laidL l p).length = l.length
  | [], [], _ => rfl
  | a :: l, b :: p, h => by unfold laidL; simp [laid_len (l := l) (p := p) (by simpa using h)]
theorem laid_get : ∀ {l : List Int} {p : List Bool} {k : Nat} (h1 : k < l.length) (h2 : k < p.length) (h3 : k < (laidL l p).length), (laidL l p)[k] = if p[k] then l[k] else 0
  | a :: l, b :: p, 0, _, _, _ => rfl
  | a :: l, b :: p, k + 1, h1, h2, h3 => by
    simp only [laidL, List.getElem_cons_succ]
    exact laid_get (by simpa using h1) (by simpa using h2) (by simpa [laidL] using h3)
/-- The first k of what was laid, zeros behind. -/
def laidT (l : List Int) (p : List Bool) (k : Nat) : List Int := (laidL l p).take k ++ List.replicate (l.length - k) 0
theorem laidT_zero (l : List Int) (p : List Bool) : laidT l p 0 = List.replicate l.length 0 := by simp [laidT]
theorem laidT_len {l : List Int} {p : List Bool} (h : l.length = p.length) {k : Nat} (hk : k ≤ l.length) : (laidT l p k).length = l.length := by
  unfold laidT; rw [List.length_append, List.length_take, laid_len h, List.length_replicate]; omega
theorem laidT_all {l : List Int} {p : List Bool} (h : l.length = p.length) : laidT l p l.length = laidL l p := by
  unfold laidT; rw [List.take_of_length_le (by rw [laid_len h]; exact Nat.le_refl _)]; simp
theorem laidT_on {l : List Int} {p : List Bool} (h : l.length = p.length) {k : Nat} (hk : k < l.length) (hp : p[k]'(by omega) = true) : (laidT l p k).set k l[k] = laidT l p (k + 1) := by
  unfold laidT
  have hll := laid_len h
  rw [show l.length - k = (l.length - (k + 1)) + 1 by omega, List.replicate_succ, List.set_append_right _ _ (by rw [List.length_take, hll]; omega), List.length_take, hll, Nat.min_eq_left (by omega), Nat.sub_self, List.set_cons_zero, List.take_succ_eq_append_getElem (by omega), laid_get hk (by omega) (by omega), if_pos hp]
  simp
theorem laidT_off {l : List Int} {p : List Bool} (h : l.length = p.length) {k : Nat} (hk : k < l.length) (hp : ¬ p[k]'(by omega) = true) : laidT l p k = laidT l p (k + 1) := by
  unfold laidT
  have hll := laid_len h
  rw [show l.length - k = (l.length - (k + 1)) + 1 by omega, List.replicate_succ, List.take_succ_eq_append_getElem (by omega), laid_get hk (by omega) (by omega), if_neg hp]
  simp
theorem laid_right {l : List Int} {p : List Bool} (h : ∀ x ∈ l, rightP x) : ∀ x ∈ laidL l p, rightP x := by
  induction l generalizing p with
  | nil => intro x hx; simp [laidL] at hx
  | cons a l ih =>
    cases p with
    | nil => intro x hx; simp [laidL] at hx
    | cons b p =>
      intro x hx
      simp only [laidL, List.mem_cons] at hx
      rcases hx with rfl | hx
      · have := h a (.head _)
        cases b <;> simp <;> omega
      · exact ih (fun y hy => h y (.tail _ hy)) x hx
theorem bad_iff2 (l : List Int) : decide (¬ 0 ≤ badI l) = decide (∀ x ∈ l, rightP x) := by
  have := bad_iff l
  by_cases h : ∀ x ∈ l, rightP x
  · rw [decide_eq_true h] at this ⊢; simpa using this
  · rw [decide_eq_false h] at this ⊢; simpa using this
def ixF (l : List Bool) : Int := match l.findIdx? (fun b => !b) with | some i => (i : Int) | none => -1
theorem ixF_at {l : List Bool} {k : Nat} (hk : k < l.length) (h : ∀ j (hj : j < l.length), j < k → l[j] = true) (hb : ¬ l[k] = true) : ixF l = (k : Int) := by
  have : l.findIdx? (fun b => !b) = some k := by
    rw [List.findIdx?_eq_some_iff_getElem]
    refine ⟨hk, by simpa using hb, fun j hj => ?_⟩
    have := h j (by omega) hj
    simpa using this
  unfold ixF; rw [this]
theorem ixF_none {l : List Bool} (h : ∀ j (hj : j < l.length), l[j] = true) : ixF l = -1 := by
  have : l.findIdx? (fun b => !b) = none := by
    rw [List.findIdx?_eq_none_iff]
    intro x hx
    obtain ⟨j, hj, rfl⟩ := List.getElem_of_mem hx
    have := h j hj
    simpa using this
  unfold ixF; rw [this]
theorem ixF_iff (l : List Bool) : decide (0 ≤ ixF l) = decide (false ∈ l) := by
  unfold ixF
  cases hf : l.findIdx? (fun b => !b) with
  | none =>
    rw [List.findIdx?_eq_none_iff] at hf
    have : ¬ false ∈ l := fun h => by simpa using hf _ h
    rw [decide_eq_false this]; rfl
  | some i =>
    rw [List.findIdx?_eq_some_iff_getElem] at hf
    obtain ⟨hi, h1, _⟩ := hf
    have h2 : l[i] = false := by simpa using h1
    have : false ∈ l := h2 ▸ List.getElem_mem hi
    rw [decide_eq_true this]
    exact decide_eq_true (show (0 : Int) ≤ (i : Int) by omega)
@[reducible] def pdL (t : BitVec 64) (num : Int) (bx : Value) (un : Int) (px : Value) : List Value := U8 (bt t 0) :: U8 (bt t 1) :: U8 (bt t 2) :: U8 (bt t 3) :: U8 (bt t 4) :: U8 (bt t 5) :: U8 (bt t 6) :: U8 (bt t 7) :: I64 num :: bx :: I64 un :: px :: []
@[reducible] def bkL (sx : Value) (nm : Int) (op : Value) : List Value := [sx, I64 nm, op]
theorem set_spI (w : List Int) (j : Nat) (v : Int) (h : j < w.length) : splice (w.map I64) (0 + j * 1) [I64 v] = (w.set j v).map I64 := by
  rw [splice_one _ _ _ (by simpa using h), Nat.zero_add, Nat.mul_one, List.map_set]
theorem set_spB (w : List Bool) (j : Nat) (v : Bool) (h : j < w.length) : splice (w.map Value.bool) (0 + j * 1) [.bool v] = (w.set j v).map Value.bool := by
  rw [splice_one _ _ _ (by simpa using h), Nat.zero_add, Nat.mul_one, List.map_set]
end Go.Eng
