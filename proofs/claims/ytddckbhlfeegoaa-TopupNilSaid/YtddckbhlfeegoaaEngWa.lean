/-
  Engine, part Wa: what a tower answers (plain), contracts over any memory.
-/
import Derived.Test.YtddckbhlfeegoaaEngW
namespace Go.Eng
open Go
set_option linter.unusedVariables false
set_option linter.unusedSimpArgs false
theorem turns_of_pure {P : Program} {f : FuncId} {args : Array Value} {Pre Pre' : World → Prop} {v : Value} {L0 : List Ent} (h : Pure P f args Pre v) (hp : ∀ w, Pre' w → Pre w) : Turns P f args Pre' L0 (fun _ : Unit => True) (fun _ => v) (fun _ => L0) := by
  intro w0 h1 h2 h3
  refine (h w0 (fun _ h => by cases h) List.nodup_nil (hp _ h3)).mono fun e w ⟨r, L', e1, ⟨e2, e3⟩, hi⟩ => ?_
  subst e3
  have hlt : ∀ e ∈ L0, e.b < w0.heap.size := fun e he => (Array.getElem?_eq_some_iff.1 (h1 e he)).1
  exact ⟨r, L0, e1, ⟨(), trivial, e2, rfl⟩, ⟨hi.size, hi.os, hi.tape, hi.output, fun b hb _ => hi.frame b hb (by simp), fun e he => by rw [hi.frame e.b (hlt e he) (by simp)]; exact h1 e he, fun e he => .inl (List.mem_map.2 ⟨e, he, rfl⟩), h2⟩⟩
theorem turns_mono {σ τ : Type} {P : Program} {f : FuncId} {args : Array Value} {Pre Pre' : World → Prop} {L0 : List Ent} {I : σ → Prop} {v : σ → Value} {N : σ → List Ent} {I' : τ → Prop} {v' : τ → Value} {N' : τ → List Ent} (h : Turns P f args Pre L0 I v N) (hp : ∀ w, Pre' w → Pre w)
    (hs : ∀ s, I s → ∃ t, I' t ∧ v s = v' t ∧ N s = N' t) : Turns P f args Pre' L0 I' v' N' := by
  intro w0 h1 h2 h3
  refine (h w0 h1 h2 (hp _ h3)).mono fun e w ⟨r, L', e1, ⟨s, i1, i2, i3⟩, hi⟩ => ?_
  obtain ⟨t, t1, t2, t3⟩ := hs s i1
  exact ⟨r, L', e1, ⟨t, t1, i2.trans t2, i3.trans t3⟩, hi⟩
@[reducible] def appD : App := (0#64, 0, [])
def takeE (room : Nat) (al : List App) (a : App) : Int :=
  if ¬ (0 ≤ a.2.1 ∧ a.2.1 ≤ 1099511627776) then 2 else if a.2.2.length < 8 then 3 else if 32776 < a.2.2.length then 5 else
  match ixA a.1 al with
  | some i => if a.2.1 ≤ (al.getD i appD).2.1 then 18 else 0
  | none => if al.length = room then 8 else 0
def takeA (room : Nat) (al : List App) (a : App) : List App := if takeE room al a = 0 then (match ixA a.1 al with | some i => al.set i a | none => al ++ [a]) else al
def seeV (al : List App) (d : BitVec 64) (g : Int) : Option (List UInt8) :=
  match ixA (hintW d) al with
  | none => none
  | some i => if (al.getD i appD).2.1 ≤ g then none else if openE (keyW d) (al.getD i appD).2.2 = 0 then some (openL (keyW d) (al.getD i appD).2.2) else none
@[reducible] def seeB (al : List App) (d : BitVec 64) (g : Int) : List UInt8 := (seeV al d g).getD []
def dropA (al : List App) (h : BitVec 64) : List App := match ixA h al with | none => al | some i => al.eraseIdx i
structure Fit (room : Nat) (al : List App) : Prop where
  len : al.length ≤ room
  box : ∀ a ∈ al, a.2.2.length ≤ 32776
  nd : (al.map (·.1)).Nodup
theorem fit_nil (room : Nat) : Fit room [] := ⟨Nat.zero_le _, (fun a h => by cases h), List.nodup_nil⟩
theorem ixA_none {d : BitVec 64} {al : List App} (h : ixA d al = none) : d ∉ al.map (·.1) := by
  unfold ixA at h
  rw [List.findIdx?_eq_none_iff] at h
  intro hm
  obtain ⟨a, ha, rfl⟩ := List.mem_map.1 hm
  simpa using h a ha
theorem ixA_at {al : List App} (hn : (al.map (·.1)).Nodup) {i : Nat} (hi : i < al.length) : ixA al[i].1 al = some i := by
  unfold ixA
  rw [List.findIdx?_eq_some_iff_getElem]
  refine ⟨hi, by simp, fun j hj => ?_⟩
  simp only [decide_eq_true_eq, Bool.not_eq_true, decide_eq_false_iff_not]
  intro e
  exact List.pairwise_iff_getElem.1 hn j i (by simp; omega) (by simpa using hi) hj (by simpa using e)
theorem take_err {room : Nat} {al : List App} {a : App} {e : Int} (h : takeE room al a = e) (h0 : e ≠ 0) : takeA room al a = al := by
  unfold takeA; rw [if_neg (by rw [h]; exact h0)]
theorem take_fit {room : Nat} {al : List App} {a : App} (h : Fit room al) : Fit room (takeA room al a) := by
  unfold takeA
  split
  · rename_i he
    unfold takeE at he
    split at he
    · cases he
    · split at he
      · cases he
      · split at he
        · cases he
        · rename_i h3
          cases hx : ixA a.1 al with
          | none =>
            rw [hx] at he
            simp only at he ⊢
            split at he
            · cases he
            · rename_i h4
              have := h.len
              refine ⟨by rw [List.length_append]; simp; omega, fun b hb => ?_, ?_⟩
              · rcases List.mem_append.1 hb with h1 | h1
                · exact h.box b h1
                · obtain rfl : b = a := by simpa using h1
                  omega
              · rw [List.map_append, List.nodup_append]
                refine ⟨h.nd, by simp, fun x hx' y hy => ?_⟩
                rintro rfl
                obtain rfl : x = a.1 := by simpa using hy
                exact ixA_none hx hx'
          | some i =>
            simp only
            obtain ⟨hi, e1⟩ := ixA_some hx
            refine ⟨by rw [List.length_set]; exact h.len, fun b hb => ?_, ?_⟩
            · rcases List.mem_or_eq_of_mem_set hb with h1 | rfl
              · exact h.box b h1
              · omega
            · rw [List.map_set, ← e1, show al[i].1 = (al.map (·.1))[i]'(by simpa using hi) by simp, List.set_getElem_self]
              exact h.nd
  · exact h
theorem drop_fit {room : Nat} {al : List App} {d : BitVec 64} (h : Fit room al) : Fit room (dropA al d) := by
  unfold dropA
  split
  · exact h
  · refine ⟨Nat.le_trans (List.length_eraseIdx_le _ _) h.len, fun b hb => h.box b (List.mem_of_mem_eraseIdx hb), ?_⟩
    rw [← erase_map]
    exact h.nd.sublist (List.eraseIdx_sublist _ _)
theorem TW.get {T e : TypeId} {bt room : Nat} {al : List App} {L : List Ent} (h : TW T e bt room al L) : ∃ ml la c mb clk rows NS NB, al = ml.map Am.app ∧ TWm e ml la c rows NS NB ∧ L = TWL T bt room la ml.length c mb clk rows NS NB := by
  obtain ⟨ml, la, c, mb, clk, rows, NS, NB, h1, h2, h3⟩ := h
  exact ⟨ml, la, c, mb, clk, rows, NS, NB, h1.symm, h2, h3⟩
theorem getD_app (ml : List Am) (i : Nat) (hi : i < ml.length) : (ml.map Am.app).getD i appD = (ml[i].h, ml[i].nb, ml[i].bl) := by
  rw [List.getD_eq_getElem?_getD, List.getElem?_map, List.getElem?_eq_getElem hi]; rfl
theorem tw_addr {e : TypeId} {ml : List Am} {la : Option Addr} {c : Nat} {rows : List MRow} {NS NB : List Ent} (h : TWm e ml la c rows NS NB) {i : Nat} (hi : i < ml.length) : ∃ b, la = some ⟨b, 0, none⟩ := own_addr h.own (by omega)
theorem te2 {room : Nat} {al : List App} {h : BitVec 64} {nb : Int} {l : List UInt8} (hk : ¬ (0 ≤ nb ∧ nb ≤ 1099511627776)) : takeE room al (h, nb, l) = 2 := if_pos hk
theorem te3 {room : Nat} {al : List App} {h : BitVec 64} {nb : Int} {l : List UInt8} (hk : 0 ≤ nb ∧ nb ≤ 1099511627776) (h8 : l.length < 8) : takeE room al (h, nb, l) = 3 := by
  unfold takeE; rw [if_neg (not_not_intro hk), if_pos h8]
theorem te5 {room : Nat} {al : List App} {h : BitVec 64} {nb : Int} {l : List UInt8} (hk : 0 ≤ nb ∧ nb ≤ 1099511627776) (h8 : 32776 < l.length) : takeE room al (h, nb, l) = 5 := by
  unfold takeE; rw [if_neg (not_not_intro hk), if_neg (show ¬ l.length < 8 by omega), if_pos h8]
theorem te_some {room : Nat} {al : List App} {h : BitVec 64} {nb : Int} {l : List UInt8} {i : Nat} (hk : 0 ≤ nb ∧ nb ≤ 1099511627776) (h8 : 8 ≤ l.length) (h9 : l.length ≤ 32776) (hx : ixA h al = some i) : takeE room al (h, nb, l) = if nb ≤ (al.getD i appD).2.1 then 18 else 0 := by
  unfold takeE; rw [if_neg (not_not_intro hk), if_neg (show ¬ l.length < 8 by omega), if_neg (show ¬ 32776 < l.length by omega), hx]
theorem te_none {room : Nat} {al : List App} {h : BitVec 64} {nb : Int} {l : List UInt8} (hk : 0 ≤ nb ∧ nb ≤ 1099511627776) (h8 : 8 ≤ l.length) (h9 : l.length ≤ 32776) (hx : ixA h al = none) : takeE room al (h, nb, l) = if al.length = room then 8 else 0 := by
  unfold takeE; rw [if_neg (not_not_intro hk), if_neg (show ¬ l.length < 8 by omega), if_neg (show ¬ 32776 < l.length by omega), hx]
theorem ta_some {room : Nat} {al : List App} {a : App} {i : Nat} (h : takeE room al a = 0) (hx : ixA a.1 al = some i) : takeA room al a = al.set i a := by
  unfold takeA; rw [if_pos h, hx]
theorem ta_none {room : Nat} {al : List App} {a : App} (h : takeE room al a = 0) (hx : ixA a.1 al = none) : takeA room al a = al ++ [a] := by
  unfold takeA; rw [if_pos h, hx]
theorem sv_none {al : List App} {d : BitVec 64} {g : Int} (hx : ixA (hintW d) al = none) : seeV al d g = none := by unfold seeV; rw [hx]
theorem sv_low {al : List App} {d : BitVec 64} {g : Int} {i : Nat} (hx : ixA (hintW d) al = some i) (h : (al.getD i appD).2.1 ≤ g) : seeV al d g = none := by unfold seeV; rw [hx]; exact if_pos h
theorem sv_bad {al : List App} {d : BitVec 64} {g : Int} {i : Nat} (hx : ixA (hintW d) al = some i) (h : ¬ (al.getD i appD).2.1 ≤ g) (h2 : ¬ openE (keyW d) (al.getD i appD).2.2 = 0) : seeV al d g = none := by unfold seeV; rw [hx]; simp only; rw [if_neg h, if_neg h2]
theorem sv_yes {al : List App} {d : BitVec 64} {g : Int} {i : Nat} (hx : ixA (hintW d) al = some i) (h : ¬ (al.getD i appD).2.1 ≤ g) (h2 : openE (keyW d) (al.getD i appD).2.2 = 0) : seeV al d g = some (openL (keyW d) (al.getD i appD).2.2) := by unfold seeV; rw [hx]; simp only; rw [if_neg h, if_pos h2]
/-! ### one place, many numbers -/
theorem one_le (b : UInt8) : [b].length ≤ 65536 := by show 1 ≤ 65536; decide
def alN (d : BitVec 64) (best at' : Int) : List App := if at' < 0 then [] else [(hintW d, best, sealL (keyW d) [UInt8.ofNat at'.toNat])]
def NW (best at' : Int) (i : Nat) : Prop := (at' = -1 ∧ best = -1) ∨ (0 ≤ at' ∧ at' < i ∧ 0 ≤ best)
theorem nw_mono {best at' : Int} {i : Nat} (h : NW best at' i) : NW best at' (i + 1) := by
  rcases h with h | ⟨h1, h2, h3⟩
  · exact .inl h
  · exact .inr ⟨h1, by omega, h3⟩
theorem alN_box (d : BitVec 64) (best at' : Int) : ∀ a ∈ alN d best at', a.2.2.length = 9 := fun a ha => by
  unfold alN at ha
  split at ha
  · cases ha
  · obtain rfl : a = _ := List.mem_singleton.1 ha
    exact seal_len _ _ (one_le _)
theorem alN_fit (d : BitVec 64) (best at' : Int) : Fit 1 (alN d best at') := by
  refine ⟨?_, fun a ha => by rw [alN_box d best at' a ha]; decide, ?_⟩ <;> unfold alN <;> split <;> simp
theorem nw_more {d : BitVec 64} {best at' k : Int} {i : Nat} {bl : List UInt8} (h : NW best at' i) (hk : 0 ≤ k ∧ k ≤ 1099511627776) (hl : bl.length = 9) (hb : best < k) : takeE 1 (alN d best at') (hintW d, k, bl) = 0 ∧ takeA 1 (alN d best at') (hintW d, k, bl) = [(hintW d, k, bl)] := by
  rcases h with ⟨h1, h2⟩ | ⟨h1, h2, h3⟩
  · have e : alN d best at' = [] := by unfold alN; rw [if_pos (by omega)]
    rw [e]
    have e0 : takeE 1 [] (hintW d, k, bl) = 0 := by rw [te_none hk (by omega) (by omega) rfl]; decide
    exact ⟨e0, by rw [ta_none e0 rfl]; rfl⟩
  · have e : alN d best at' = [(hintW d, best, sealL (keyW d) [UInt8.ofNat at'.toNat])] := by unfold alN; rw [if_neg (by omega)]
    have hx : ixA (hintW d) (alN d best at') = some 0 := by rw [e]; exact ixA_one _ _ rfl
    have e0 : takeE 1 (alN d best at') (hintW d, k, bl) = 0 := by rw [te_some hk (by omega) (by omega) hx, e]; exact if_neg (show ¬ k ≤ best by omega)
    exact ⟨e0, by rw [ta_some e0 hx, e]; rfl⟩
theorem nw_old {d : BitVec 64} {best at' k : Int} {i : Nat} {bl : List UInt8} (h : NW best at' i) (hk : 0 ≤ k ∧ k ≤ 1099511627776) (hl : bl.length = 9) (hb : ¬ best < k) : takeE 1 (alN d best at') (hintW d, k, bl) = 18 ∧ takeA 1 (alN d best at') (hintW d, k, bl) = alN d best at' := by
  rcases h with ⟨h1, h2⟩ | ⟨h1, h2, h3⟩
  · omega
  · have e : alN d best at' = [(hintW d, best, sealL (keyW d) [UInt8.ofNat at'.toNat])] := by unfold alN; rw [if_neg (by omega)]
    have hx : ixA (hintW d) (alN d best at') = some 0 := by rw [e]; exact ixA_one _ _ rfl
    have e0 : takeE 1 (alN d best at') (hintW d, k, bl) = 18 := by rw [te_some hk (by omega) (by omega) hx, e]; exact if_pos (show k ≤ best by omega)
    exact ⟨e0, take_err e0 (by decide)⟩
theorem alN_new (d : BitVec 64) (k : Int) (i : Nat) : alN d k (i : Int) = [(hintW d, k, sealL (keyW d) [UInt8.ofNat (i : Int).toNat])] := by unfold alN; rw [if_neg (by omega)]
theorem nw_see {d : BitVec 64} {best at' : Int} {i : Nat} (h : NW best at' i) : seeV (alN d best at') d (-1) = if at' < 0 then none else some [UInt8.ofNat at'.toNat] := by
  rcases h with ⟨h1, h2⟩ | ⟨h1, h2, h3⟩
  · rw [if_pos (by omega)]
    have e : alN d best at' = [] := by unfold alN; rw [if_pos (by omega)]
    rw [e]; exact sv_none rfl
  · rw [if_neg (by omega)]
    have e : alN d best at' = [(hintW d, best, sealL (keyW d) [UInt8.ofNat at'.toNat])] := by unfold alN; rw [if_neg (by omega)]
    have hx : ixA (hintW d) (alN d best at') = some 0 := by rw [e]; exact ixA_one _ _ rfl
    have hg : (alN d best at').getD 0 appD = (hintW d, best, sealL (keyW d) [UInt8.ofNat at'.toNat]) := by rw [e]; rfl
    rw [sv_yes hx (by rw [hg]; show ¬ best ≤ -1; omega) (by rw [hg]; exact openE_seal _ _ (one_le _)), hg]
    rw [openL_seal _ _ (one_le _)]
section
variable {P : Program} {n : Nat} {w0 : World} {mods : List Nat} {E : Env} {L : List Ent} {dst : Option Tmp} {T t ty : TypeId} {pos : String} {after : Array Edge} {g : Option (Nat × Bool)} {x y z : Operand}
theorem val_convI_8 {u : Value} {i : Int} {s d : TypeId} (hx : Env.ev E x = some u) (hs : (P.underlying s).isSome = true) (hd : P.underlying d = some (.int .u8)) (hu : u = I64 i) (h0 : 0 ≤ i) :
    Val P n w0 mods E L ⟨dst, .convert s d x, T, pos, after, g⟩ (U8 (UInt8.ofNat i.toNat)) := fun a w hf hi => by
  subst hu
  have : IntKind.u8.wrap i = ((UInt8.ofNat i.toNat).toNat : Int) := by
    rw [UInt8.toNat_ofNat']
    show (i % 256 : Int) = _
    omega
  rw [val_conv hx hs hd a w hf hi, this]
end
theorem perm_takeL {L R M N : List Ent} (h : TakeL L N R) (g : List.Perm R M) : List.Perm L (N ++ M) := h.perm.trans (g.append_left N)
theorem perm_takeX {L R M : List Ent} {e : Ent} (h : TakeL L [e] R) (g : List.Perm R M) : List.Perm L (e :: M) := h.perm.trans (g.cons e)
end Go.Eng
