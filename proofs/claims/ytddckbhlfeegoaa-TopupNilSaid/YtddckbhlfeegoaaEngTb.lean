/-
  Engine, part Tb: chapter 37: banks: what they hold, their memory.
-/
import Derived.Test.YtddckbhlfeegoaaEngTa
namespace Go.Eng
open Go
set_option linter.unusedVariables false
set_option linter.unusedSimpArgs false
structure Bo where
  tb : BitVec 64
  num : Int
  ad : List Int
  un : Int
  pu : List Bool
structure BS where
  st : List Int
  nm : Int
  op : Option Bo
def newE (n : Nat) (l : List Int) : Int := if decide (2 ≤ n ∧ n ≤ 8) then (if decide (∀ x ∈ l, rightP x) then (if decide (rightP l.sum) then 0 else 22) else 2) else 3
theorem newE_ok {n : Nat} {l : List Int} (h : newE n l = 0) : (2 ≤ n ∧ n ≤ 8) ∧ (∀ x ∈ l, rightP x) ∧ rightP l.sum := by
  unfold newE at h
  by_cases h1 : 2 ≤ n ∧ n ≤ 8
  · by_cases h2 : ∀ x ∈ l, rightP x
    · by_cases h3 : rightP l.sum
      · exact ⟨h1, h2, h3⟩
      · rw [decide_eq_true h1, decide_eq_true h2, decide_eq_false h3] at h; cases h
    · rw [decide_eq_true h1, decide_eq_false h2] at h; cases h
  · rw [decide_eq_false h1] at h; cases h
@[reducible] def bkE (TB b : Nat) (sx : Value) (nm : Int) (op : Value) : Ent := ⟨b, .cells (bkL sx nm op).toArray TB (0, 0)⟩
@[reducible] def pdE (TQ p : Nat) (t : BitVec 64) (num : Int) (bx : Value) (un : Int) (px : Value) : Ent := ⟨p, .cells (pdL t num bx un px).toArray TQ (0, 0)⟩
/-- What is waiting, in memory. -/
structure Pm (ti to : Nat) (o : Bo) (aa : Option Addr) (ac : Nat) (NA : List Ent) (pa : Option Addr) (pc : Nat) (NP : List Ent) : Prop where
  ad : Own ti 1 aa o.ad.length ac (o.ad.map I64) NA
  pu : Own to 1 pa o.pu.length pc (o.pu.map Value.bool) NP
@[reducible] def bk1 (TB TQ b : Nat) (sa : Option Addr) (sn sc : Nat) (nm : Int) (p : Nat) (o : Bo) (aa : Option Addr) (ac : Nat) (pa : Option Addr) (pc : Nat) (NS NA NP : List Ent) : List Ent :=
  bkE TB b (.slice sa sn sc) nm (.pointer (some ⟨p, 0, none⟩)) :: pdE TQ p o.tb o.num (.slice aa o.ad.length ac) o.un (.slice pa o.pu.length pc) :: (NS ++ (NA ++ NP))
@[reducible] def bk0 (TB b : Nat) (sa : Option Addr) (sn sc : Nat) (nm : Int) (NS : List Ent) : List Ent := bkE TB b (.slice sa sn sc) nm (.pointer none) :: NS
/-- A bank's memory. -/
def BK (TB TQ ti to b : Nat) (s : BS) (L : List Ent) : Prop :=
  ∃ sa sc NS, Own ti 1 sa s.st.length sc (s.st.map I64) NS ∧
    match s.op with
    | none => L = bk0 TB b sa s.st.length sc s.nm NS
    | some o => ∃ p aa ac NA pa pc NP, Pm ti to o aa ac NA pa pc NP ∧ L = bk1 TB TQ b sa s.st.length sc s.nm p o aa ac pa pc NS NA NP
/-- A bank that is as it should be. -/
structure BOk (s : BS) : Prop where
  n2 : 2 ≤ s.st.length
  n8 : s.st.length ≤ 8
  st : ∀ x ∈ s.st, rightP x
  sm : rightP s.st.sum
  ad : ∀ o, s.op = some o → o.ad.length = s.st.length ∧ o.pu.length = s.st.length ∧ (∀ x ∈ o.ad, rightP x) ∧ rightP (s.st.sum + o.ad.sum)
theorem bok_new {n : Nat} {l : List Int} (hn : l.length = n) (h : newE n l = 0) : BOk ⟨l, -1, none⟩ := by
  obtain ⟨h1, h2, h3⟩ := newE_ok h
  exact ⟨by show 2 ≤ l.length; omega, by show l.length ≤ 8; omega, h2, h3, fun o h => by cases h⟩
theorem turns_of_pureL {P : Program} {f : FuncId} {args : Array Value} {Pre Pre' : World → Prop} {v : Value} {L0 : List Ent} (h : Pure P f args Pre v) (hp : ∀ w, Inv w (L0.map Ent.b) L0 w → Pre' w → Pre w) : Turns P f args Pre' L0 (fun _ : Unit => True) (fun _ => v) (fun _ => L0) := by
  intro w0 h1 h2 h3
  refine (h w0 (fun _ h => by cases h) List.nodup_nil (hp _ (Inv.start h1 h2) h3)).mono fun e w ⟨r, L', e1, ⟨e2, e3⟩, hi⟩ => ?_
  subst e3
  have hlt : ∀ e ∈ L0, e.b < w0.heap.size := fun e he => (Array.getElem?_eq_some_iff.1 (h1 e he)).1
  exact ⟨r, L0, e1, ⟨(), trivial, e2, rfl⟩, ⟨hi.size, hi.os, hi.tape, hi.output, fun b hb _ => hi.frame b hb (by simp), fun e he => by rw [hi.frame e.b (hlt e he) (by simp)]; exact h1 e he, fun e he => .inl (List.mem_map.2 ⟨e, he, rfl⟩), h2⟩⟩
theorem turns_of_makesL {σ : Type} {P : Program} {f : FuncId} {args : Array Value} {Pre Pre' : World → Prop} {I : σ → Prop} {v : σ → Value} {N : σ → List Ent} {L0 : List Ent} (h : Makes P f args Pre I v N) (hp : ∀ w, Inv w (L0.map Ent.b) L0 w → Pre' w → Pre w) : Turns P f args Pre' L0 I v (fun s => N s ++ L0) := by
  intro w0 h1 h2 h3
  refine (h w0 (fun _ h => by cases h) List.nodup_nil (hp _ (Inv.start h1 h2) h3)).mono fun e w ⟨r, L', e1, ⟨s, i1, i2, i3⟩, hi⟩ => ?_
  subst i3
  have hlt : ∀ e ∈ L0, e.b < w0.heap.size := fun e he => (Array.getElem?_eq_some_iff.1 (h1 e he)).1
  refine ⟨r, N s ++ L0, e1, ⟨s, i1, i2, rfl⟩, ⟨hi.size, hi.os, hi.tape, hi.output, fun b hb _ => hi.frame b hb (by simp), fun e he => ?_, fun e he => ?_, ?_⟩⟩
  · rcases List.mem_append.1 he with he | he
    · exact hi.has e he
    · rw [hi.frame e.b (hlt e he) (by simp)]; exact h1 e he
  · rcases List.mem_append.1 he with he | he
    · rcases hi.may e he with hm | hm
      · simp at hm
      · exact .inr hm
    · exact .inl (List.mem_map.2 ⟨e, he, rfl⟩)
  · rw [List.map_append, List.nodup_append]
    refine ⟨hi.nodup, h2, fun x hx y hy => ?_⟩
    rintro rfl
    obtain ⟨a, ha, rfl⟩ := List.mem_map.1 hx
    obtain ⟨c, hc, hce⟩ := List.mem_map.1 hy
    rcases hi.may a ha with hm | hm
    · simp at hm
    · have := hlt c hc; omega
def askC4 (s : BS) (now : Int) : Bool := match s.op with | none => true | some o => decide (o.un < now ∧ (laidL o.ad o.pu).sum = 0)
def askE (s : BS) (now rn ru : Int) (rad : List Int) : Int :=
  if decide (heightP now ∧ heightP rn ∧ heightP ru) then (if decide (rad.length = s.st.length) then (if decide (∀ x ∈ rad, rightP x) then (if askC4 s now then (if decide (s.nm < rn) then (if decide (now ≤ ru) then (if decide (0 < rad.sum) then (if decide (rightP (s.st.sum + rad.sum)) then 0 else 22) else 1) else 19) else 18) else 10) else 2) else 3) else 2
def pu0 (rad : List Int) : List Bool := rad.map fun x => decide (x = 0)
def pu0T (rad : List Int) (k : Nat) : List Bool := (pu0 rad).take k ++ List.replicate (rad.length - k) false
theorem pu0_len (rad : List Int) : (pu0 rad).length = rad.length := List.length_map _
theorem pu0T_zero (rad : List Int) : pu0T rad 0 = List.replicate rad.length false := by simp [pu0T]
theorem pu0T_len {rad : List Int} {k : Nat} (hk : k ≤ rad.length) : (pu0T rad k).length = rad.length := by
  unfold pu0T; rw [List.length_append, List.length_take, pu0_len, List.length_replicate]; omega
theorem pu0T_all (rad : List Int) : pu0T rad rad.length = pu0 rad := by
  unfold pu0T; rw [List.take_of_length_le (by rw [pu0_len]; exact Nat.le_refl _)]; simp
theorem pu0T_step {rad : List Int} {k : Nat} (hk : k < rad.length) : (pu0T rad k).set k (decide (rad[k] = 0)) = pu0T rad (k + 1) := by
  unfold pu0T
  have hll := pu0_len rad
  rw [show rad.length - k = (rad.length - (k + 1)) + 1 by omega, List.replicate_succ, List.set_append_right _ _ (by rw [List.length_take, hll]; omega), List.length_take, hll, Nat.min_eq_left (by omega), Nat.sub_self, List.set_cons_zero, List.take_succ_eq_append_getElem (by omega)]
  simp [pu0]
theorem ask_ok {s : BS} {now rn ru : Int} {rad : List Int} (h : askE s now rn ru rad = 0) : rad.length = s.st.length ∧ (∀ x ∈ rad, rightP x) ∧ askC4 s now = true ∧ s.nm < rn ∧ now ≤ ru ∧ 0 < rad.sum ∧ rightP (s.st.sum + rad.sum) ∧ heightP now ∧ heightP rn ∧ heightP ru := by
  unfold askE at h
  by_cases h1 : heightP now ∧ heightP rn ∧ heightP ru
  · by_cases h2 : rad.length = s.st.length
    · by_cases h3 : ∀ x ∈ rad, rightP x
      · by_cases h4 : askC4 s now = true
        · by_cases h5 : s.nm < rn
          · by_cases h6 : now ≤ ru
            · by_cases h7 : 0 < rad.sum
              · by_cases h8 : rightP (s.st.sum + rad.sum)
                · exact ⟨h2, h3, h4, h5, h6, h7, h8, h1⟩
                · rw [decide_eq_true h1, decide_eq_true h2, decide_eq_true h3, h4, decide_eq_true h5, decide_eq_true h6, decide_eq_true h7, decide_eq_false h8] at h; cases h
              · rw [decide_eq_true h1, decide_eq_true h2, decide_eq_true h3, h4, decide_eq_true h5, decide_eq_true h6, decide_eq_false h7] at h; cases h
            · rw [decide_eq_true h1, decide_eq_true h2, decide_eq_true h3, h4, decide_eq_true h5, decide_eq_false h6] at h; cases h
          · rw [decide_eq_true h1, decide_eq_true h2, decide_eq_true h3, h4, decide_eq_false h5] at h; cases h
        · rw [decide_eq_true h1, decide_eq_true h2, decide_eq_true h3, Bool.eq_false_iff.2 h4] at h; cases h
      · rw [decide_eq_true h1, decide_eq_true h2, decide_eq_false h3] at h; cases h
    · rw [decide_eq_true h1, decide_eq_false h2] at h; cases h
  · rw [decide_eq_false h1] at h; cases h
theorem gk_perm {P : Program} {n : Nat} {w0 : World} {mods : List Nat} {E : Env} {L M : List Ent} {x : Exit} {k : Kont} (h : List.Perm L M) (g : GK P n w0 mods x k E M) : GK P n w0 mods x k E L := fun a w hf hi => g a w hf (hi.perm h)
theorem inv_perm_sub {w0 w : World} {mods : List Nat} {L M N : List Ent} (h : Inv w0 mods L w) (p : List.Perm L M) (s : List.Sublist N M) : Inv w0 mods N w := (h.perm p).sub s
def askS (s : BS) (now : Int) (rt : BitVec 64) (rn ru : Int) (rad : List Int) : BS := if askE s now rn ru rad = 0 then ⟨s.st, rn, some ⟨rt, rn, rad, ru, pu0 rad⟩⟩ else s
theorem askS_ok {s : BS} {now : Int} {rt : BitVec 64} {rn ru : Int} {rad : List Int} (h : BOk s) : BOk (askS s now rt rn ru rad) := by
  unfold askS
  split
  · rename_i he
    obtain ⟨h1, h2, h3, h4, h5, h6, h7, _⟩ := ask_ok he
    exact ⟨h.n2, h.n8, h.st, h.sm, fun o ho => by cases ho; exact ⟨h1, (pu0_len rad).trans h1, h2, h7⟩⟩
  · exact h
theorem ask_perm0 (p q b5 b4 b3 k : Ent) (NA NS : List Ent) : List.Perm (p :: q :: b5 :: b4 :: b3 :: k :: (NA ++ NS)) ((k :: p :: (NS ++ (NA ++ [q]))) ++ [b5, b4, b3]) := by
  have h1 : List.Perm (p :: q :: b5 :: b4 :: b3 :: k :: (NA ++ NS)) ([k, p] ++ (NS ++ (NA ++ [q, b5, b4, b3]))) := by
    refine List.Perm.trans (l₂ := [k, p] ++ ([q, b5, b4, b3] ++ (NA ++ NS))) ?_ ?_
    · exact (List.perm_middle (l₁ := [p, q, b5, b4, b3]) (a := k)).trans (.refl _)
    · refine List.Perm.append_left _ ?_
      refine List.perm_append_comm.trans ?_
      refine (List.perm_append_comm.append_right _).trans ?_
      rw [List.append_assoc]
  refine h1.trans ?_
  rw [List.cons_append, List.cons_append, List.nil_append]
  simp
theorem bk_ask {TB TQ ti to b : Nat} {st : List Int} {rt : BitVec 64} {rn ru : Int} {rad : List Int} {sa aa : Option Addr} {sc ac p q : Nat} {NS NA : List Ent} (sx : Own ti 1 sa st.length sc (st.map I64) NS) (hca : Own ti 1 aa rad.length ac (rad.map I64) NA) :
    BK TB TQ ti to b ⟨st, rn, some ⟨rt, rn, rad, ru, pu0 rad⟩⟩ (bkE TB b (.slice sa st.length sc) rn (.pointer (some ⟨p, 0, none⟩)) :: pdE TQ p rt rn (.slice aa rad.length ac) ru (.slice (some ⟨q, 0, none⟩) rad.length rad.length) :: (NS ++ (NA ++ [⟨q, .cells ((pu0 rad).map Value.bool).toArray to (0, 0)⟩]))) := by
  refine ⟨sa, sc, NS, sx, p, aa, ac, NA, some ⟨q, 0, none⟩, rad.length, [⟨q, .cells ((pu0 rad).map Value.bool).toArray to (0, 0)⟩], ⟨hca, ?_⟩, ?_⟩
  · have := own_lit (e := to) (size := 1) (n := rad.length) (b := q) (xs := (pu0 rad).map Value.bool) (by rw [List.length_map, pu0_len, Nat.mul_one])
    show Own to 1 _ (pu0 rad).length _ _ _
    rw [pu0_len]; exact this
  · show _ = bk1 TB TQ b sa st.length sc rn p ⟨rt, rn, rad, ru, pu0 rad⟩ aa ac _ _ NS NA _
    simp only [bk1, pu0_len]
end Go.Eng
