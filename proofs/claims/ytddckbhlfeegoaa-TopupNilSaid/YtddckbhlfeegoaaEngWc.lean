/-
  Engine, part Wc: deeds of chapter 51; rows of equal width in an argument.
-/
import Derived.Test.YtddckbhlfeegoaaEngWb
namespace Go.Eng
open Go
set_option linter.unusedVariables false
set_option linter.unusedSimpArgs false
theorem row_addr {w : World} {mods : List Nat} {ba : Option Addr} {cs : List Value} (h : Row w mods ba cs) (h0 : 0 < cs.length) : ∃ b o, ba = some ⟨b, o, none⟩ := by
  obtain ⟨a, rfl, _, hc⟩ := h 0 _ (List.getElem?_eq_getElem h0)
  rw [add_zero] at hc
  obtain ⟨b, o, s⟩ := a
  cases s with
  | none => exact ⟨b, o, rfl⟩
  | some s =>
    exfalso
    simp [World.cell?] at hc
    split at hc <;> simp at hc
theorem idx_eq {ba : Option Addr} {b o m k : Nat} (h : ba = some ⟨b, o, none⟩) : Value.pointer (ba.map (·.add (m * k))) = .pointer (some ⟨b, o + m * k, none⟩) := by
  subst h; rw [Option.map_some, add_mk]
section
variable {w0 : World} {mods : List Nat} {L : List Ent}
theorem Sees.rowK {α : Type} {f : α → List Value} {k : Nat} (hf : ∀ a, (f a).length = k) {l : List α} {ba : Option Addr} {b o m : Nat} (h : Sees w0 mods L ba (l.flatMap f)) (hb : ba = some ⟨b, o, none⟩) (hm : m < l.length) : Sees w0 mods L (some ⟨b, o + m * k, none⟩) (f l[m]) := by
  subst hb
  have h1 := (h.part (m * k)).take k
  rw [flatK_drop hf l m hm] at h1
  rwa [Option.map_some, add_mk] at h1
theorem Sees.rowKA {α : Type} {f : α → List Value} {k : Nat} (hf : ∀ a, (f a).length = k) {l : List α} {ba : Option Addr} {b o m : Nat} (h : Sees w0 mods L ba (l.flatMap f)) (hb : ba = some ⟨b, o, none⟩) (hm : m < l.length) (j : Nat) : Sees w0 mods L (some ⟨b, o + m * k + j, none⟩) ((f l[m]).drop j) := by
  have := (h.rowK hf hb hm).part j
  rwa [Option.map_some, add_mk] at this
end
theorem row_of_entL {w0 : World} {mods : List Nat} {L L0 R : List Ent} {b : Nat} {cs junk : List Value} {e : TypeId} {fz : Nat × Nat} (h1 : TakeL L L0 R) (h2 : (⟨b, .cells (cs ++ junk).toArray e fz⟩ : Ent) ∈ R) : ∀ w, Inv w0 mods L w → Row w (L0.map Ent.b) (some ⟨b, 0, none⟩) cs := fun w hi i v hv => by
  have hp := h1.perm
  obtain ⟨a, e1, e2⟩ := (has_cells (b := b) (cs := cs) (junk := junk) (e := e) (fz := fz)).sees (L := L) (fun w hi => hi.sub (List.singleton_sublist.2 (hp.mem_iff.2 (List.mem_append_right _ h2)))) w hi i v hv
  cases e1
  refine ⟨_, rfl, ?_, e2⟩
  have hnd : ((L0 ++ R).map Ent.b).Nodup := ((hp.map _).nodup_iff).1 hi.nodup
  rw [List.map_append, List.nodup_append] at hnd
  intro hb
  exact hnd.2.2 _ hb b (List.mem_map.2 ⟨_, h2, rfl⟩) rfl
structure De where
  dr : Bool
  rw : Bool
  nc : BitVec 64
  nb : Int
  s : ByteArray
@[reducible] def deL (dr rw : Bool) (nc : BitVec 64) (nb : Int) (s : ByteArray) : List Value := .bool dr :: .bool rw :: U8 (bt nc 0) :: U8 (bt nc 1) :: U8 (bt nc 2) :: U8 (bt nc 3) :: U8 (bt nc 4) :: U8 (bt nc 5) :: U8 (bt nc 6) :: U8 (bt nc 7) :: I64 nb :: .string s :: []
@[reducible] def De.L (a : De) : List Value := deL a.dr a.rw a.nc a.nb a.s
theorem de_len (a : De) : a.L.length = 12 := rfl
theorem de_all (l : List De) : ∀ v ∈ l.flatMap De.L, v.oneCell' = true := fun v hv => by
  obtain ⟨a, _, hv⟩ := List.mem_flatMap.1 hv
  simp only [De.L, deL, List.mem_cons, List.not_mem_nil, or_false] at hv
  rcases hv with rfl | rfl | rfl | rfl | rfl | rfl | rfl | rfl | rfl | rfl | rfl | rfl <;> rfl
def fairD (l : List De) : Bool := decide ((∀ a ∈ l, a.s.size ≤ 300) ∧ l.length ≤ 40)
theorem fair_bad {l : List De} {i : Nat} (hi : i < l.length) (h : 300 < l[i].s.size) : fairD l = false := by
  unfold fairD; rw [decide_eq_false_iff_not]
  intro ⟨h1, _⟩
  have := h1 _ (List.getElem_mem hi)
  omega
theorem fair_end {l : List De} (h : ∀ j (hj : j < l.length), l[j].s.size ≤ 300) : fairD l = decide (l.length ≤ 40) := by
  unfold fairD
  congr 1
  apply propext
  exact ⟨fun h => h.2, fun h2 => ⟨fun a ha => by obtain ⟨j, hj, rfl⟩ := List.getElem_of_mem ha; exact h j hj, h2⟩⟩
theorem fair_of {l : List De} (h : fairD l = true) : (∀ a ∈ l, a.s.size ≤ 300) ∧ l.length ≤ 40 := by
  unfold fairD at h; exact of_decide_eq_true h
/-- The box that a deed's appointment bears. -/
def mdB (a : De) : List UInt8 := if a.rw then a.s.data.toList else if (0 ≤ a.nb ∧ a.nb ≤ 1099511627776) ∧ a.s.size ≤ 32768 then sealL (keyW a.nc) a.s.data.toList else []
@[reducible] def mdA (a : De) : App := (hintW a.nc, a.nb, mdB a)
theorem md_raw {a : De} (h : a.rw = true) : mdB a = a.s.data.toList := by unfold mdB; rw [if_pos h]
theorem md_ok {a : De} (h : ¬ a.rw = true) (h1 : 0 ≤ a.nb ∧ a.nb ≤ 1099511627776) (h2 : a.s.size ≤ 32768) : mdB a = sealL (keyW a.nc) a.s.data.toList := by unfold mdB; rw [if_neg h, if_pos ⟨h1, h2⟩]
theorem md_no {a : De} (h : ¬ a.rw = true) (h1 : ¬ ((0 ≤ a.nb ∧ a.nb ≤ 1099511627776) ∧ a.s.size ≤ 32768)) : mdB a = [] := by unfold mdB; rw [if_neg h, if_neg h1]
/-! ### what a tower holds under a hint -/
def fnd (al : List App) (h : BitVec 64) : Option App := (ixA h al).map fun i => al.getD i appD
theorem fnd_some (al : List App) (h : BitVec 64) : (ixA h al).isSome = (fnd al h).isSome := by unfold fnd; rw [Option.isSome_map]
theorem takeE_fnd {room : Nat} {al bl : List App} {a : App} (h : fnd al a.1 = fnd bl a.1) (h1 : al.length ≠ room) (h2 : bl.length ≠ room) : takeE room al a = takeE room bl a := by
  unfold takeE
  unfold fnd at h
  cases hx : ixA a.1 al <;> cases hy : ixA a.1 bl <;> rw [hx, hy] at h <;> simp at h <;> simp [h1, h2]
  rw [h]
theorem seeV_fnd {al bl : List App} {d : BitVec 64} {g : Int} (h : fnd al (hintW d) = fnd bl (hintW d)) : seeV al d g = seeV bl d g := by
  unfold seeV
  unfold fnd at h
  cases hx : ixA (hintW d) al <;> cases hy : ixA (hintW d) bl <;> rw [hx, hy] at h <;> simp at h <;> try rfl
  simp only [List.getD_eq_getElem?_getD]; rw [h]
theorem getD_at {al : List App} {i : Nat} (hi : i < al.length) : al.getD i appD = al[i] := by rw [List.getD_eq_getElem?_getD, List.getElem?_eq_getElem hi]; rfl
theorem fnd_take {room : Nat} {al : List App} {a : App} (h : BitVec 64) : fnd (takeA room al a) h = if takeE room al a = 0 ∧ a.1 = h then some a else fnd al h := by
  by_cases he : takeE room al a = 0
  · cases hx : ixA a.1 al with
    | none =>
      rw [ta_none he hx]
      unfold fnd
      rw [ixA_app]
      by_cases hh : a.1 = h
      · subst hh
        rw [hx, if_pos (show takeE room al a = 0 ∧ a.1 = a.1 from ⟨he, rfl⟩)]
        simp
      · rw [if_neg (show ¬ (takeE room al a = 0 ∧ a.1 = h) from fun e => hh e.2)]
        cases hy : ixA h al with
        | none => simp [hh]
        | some j =>
          obtain ⟨hj, _⟩ := ixA_some hy
          simp [List.getElem?_append_left hj]
    | some i =>
      obtain ⟨hi, e1⟩ := ixA_some hx
      rw [ta_some he hx]
      unfold fnd
      rw [ixA_set _ _ hi _ e1.symm]
      by_cases hh : a.1 = h
      · subst hh
        rw [hx, if_pos (show takeE room al a = 0 ∧ a.1 = a.1 from ⟨he, rfl⟩)]
        simp [hi]
      · rw [if_neg (show ¬ (takeE room al a = 0 ∧ a.1 = h) from fun e => hh e.2)]
        cases hy : ixA h al with
        | none => rfl
        | some j =>
          obtain ⟨hj, ej⟩ := ixA_some hy
          have hij : i ≠ j := fun e => hh (by subst e; rw [← e1, ej])
          simp [hij]
  · rw [take_err rfl he, if_neg (fun e => he e.1)]
theorem fnd_drop {al : List App} (hn : (al.map (·.1)).Nodup) (h' h : BitVec 64) : fnd (dropA al h') h = if h = h' then none else fnd al h := by
  unfold dropA
  cases hx : ixA h' al with
  | none =>
    simp only
    split
    · rename_i e; subst e; unfold fnd; rw [hx]; rfl
    · rfl
  | some i =>
    obtain ⟨hil, _⟩ := ixA_some hx
    have he := ixA_erase (d := h) hn hx
    simp only
    unfold fnd
    by_cases hh : h = h'
    · rw [if_pos hh] at he ⊢
      cases hz : ixA h (al.eraseIdx i) with
      | none => rfl
      | some j => rw [hz] at he; cases he
    · rw [if_neg hh] at he ⊢
      rw [he]
      cases hz : ixA h (al.eraseIdx i) with
      | none => rfl
      | some j =>
        obtain ⟨hj, _⟩ := ixA_some hz
        simp only [Option.map_some]
        rw [getD_at hj]
        have hjl : j < al.length - 1 := by rw [List.length_eraseIdx, if_pos hil] at hj; exact hj
        rw [List.getElem_eraseIdx]
        by_cases h1 : j < i
        · simp only [h1, if_true, dite_true]; rw [getD_at (by omega)]
        · simp only [h1, if_false, dite_false]; rw [getD_at (by omega)]
theorem take_len (room : Nat) (al : List App) (a : App) : (takeA room al a).length ≤ al.length + 1 := by
  unfold takeA; split
  · split <;> simp
  · omega
theorem drop_len (al : List App) (h : BitVec 64) : (dropA al h).length ≤ al.length := by
  unfold dropA; split
  · exact Nat.le_refl _
  · exact List.length_eraseIdx_le _ _
/-- Two towers: the second holds what the first holds under one hint. -/
structure Al1 (h0 : BitVec 64) (i : Nat) (ax ay : List App) : Prop where
  fx : Fit 100 ax
  fy : Fit 100 ay
  lx : ax.length ≤ i
  ly : ay.length ≤ i
  eq : fnd ax h0 = fnd ay h0
theorem al1_start (h0 : BitVec 64) : Al1 h0 0 [] [] := ⟨fit_nil _, fit_nil _, Nat.le_refl _, Nat.le_refl _, rfl⟩
theorem al1_drop {h0 h : BitVec 64} {i : Nat} {ax ay : List App} (a : Al1 h0 i ax ay) : Al1 h0 (i + 1) (dropA ax h) (dropA ay h) :=
  ⟨drop_fit a.fx, drop_fit a.fy, Nat.le_succ_of_le (Nat.le_trans (drop_len _ _) a.lx), Nat.le_succ_of_le (Nat.le_trans (drop_len _ _) a.ly), by rw [fnd_drop a.fx.nd, fnd_drop a.fy.nd, a.eq]⟩
theorem al1_drop1 {h0 h : BitVec 64} {i : Nat} {ax ay : List App} (a : Al1 h0 i ax ay) (hh : ¬ h = h0) : Al1 h0 (i + 1) (dropA ax h) ay :=
  ⟨drop_fit a.fx, a.fy, Nat.le_succ_of_le (Nat.le_trans (drop_len _ _) a.lx), Nat.le_succ_of_le a.ly, by rw [fnd_drop a.fx.nd, if_neg (Ne.symm hh), a.eq]⟩
theorem al1_code {h0 : BitVec 64} {i : Nat} {ax ay : List App} (a : Al1 h0 i ax ay) (hi : i < 40) {b : App} (hb : b.1 = h0) : takeE 100 ay b = takeE 100 ax b :=
  takeE_fnd (by rw [hb]; exact a.eq.symm) (by have := a.ly; omega) (by have := a.lx; omega)
theorem al1_take {h0 : BitVec 64} {i : Nat} {ax ay : List App} (a : Al1 h0 i ax ay) (hi : i < 40) {b : App} (hb : b.1 = h0) : Al1 h0 (i + 1) (takeA 100 ax b) (takeA 100 ay b) :=
  ⟨take_fit a.fx, take_fit a.fy, Nat.le_trans (take_len _ _ _) (Nat.succ_le_succ a.lx), Nat.le_trans (take_len _ _ _) (Nat.succ_le_succ a.ly), by rw [fnd_take, fnd_take, al1_code a hi hb, a.eq]⟩
theorem al1_take1 {h0 : BitVec 64} {i : Nat} {ax ay : List App} (a : Al1 h0 i ax ay) {b : App} (hb : ¬ b.1 = h0) : Al1 h0 (i + 1) (takeA 100 ax b) ay :=
  ⟨take_fit a.fx, a.fy, Nat.le_trans (take_len _ _ _) (Nat.succ_le_succ a.lx), Nat.le_succ_of_le a.ly, by rw [fnd_take, if_neg (fun e => hb e.2), a.eq]⟩
end Go.Eng
