/-
  Engine, part Wb: an appointment taken out: rows in a block, the map renumbered.
-/
import Derived.Test.YtddckbhlfeegoaaEngWa
namespace Go.Eng
open Go
set_option linter.unusedVariables false
set_option linter.unusedSimpArgs false
theorem flatK_dropL {α : Type} {f : α → List Value} {k : Nat} (hf : ∀ a, (f a).length = k) : ∀ (l : List α) (m : Nat), (l.flatMap f).drop (m * k) = (l.drop m).flatMap f
  | l, 0 => by simp
  | [], m + 1 => by simp
  | a :: l, m + 1 => by
    rw [List.flatMap_cons, show (m + 1) * k = (f a).length + m * k by rw [hf, Nat.add_mul]; omega, ← List.drop_drop, List.drop_left, List.drop_succ_cons]
    exact flatK_dropL hf l m
theorem flatK_takeL {α : Type} {f : α → List Value} {k : Nat} (hf : ∀ a, (f a).length = k) : ∀ (l : List α) (m : Nat), (l.flatMap f).take (m * k) = (l.take m).flatMap f
  | l, 0 => by simp
  | [], m + 1 => by simp
  | a :: l, m + 1 => by
    rw [List.flatMap_cons, show (m + 1) * k = (f a).length + m * k by rw [hf, Nat.add_mul]; omega, List.take_append, Nat.add_sub_cancel_left, List.take_of_length_le (by omega), List.take_succ_cons, List.flatMap_cons, flatK_takeL hf l m]
/-- The rows behind one that goes are moved up. -/
theorem erase_rows {α : Type} {f : α → List Value} {k : Nat} (hf : ∀ a, (f a).length = k) (l : List α) (i : Nat) (hi : i < l.length) (junk : List Value) :
    ∃ r, r.length = k + junk.length ∧ splice (l.flatMap f ++ junk) (i * k) ((l.drop (i + 1)).flatMap f) = (l.eraseIdx i).flatMap f ++ r := by
  have h1 : (l.flatMap f ++ junk).take (i * k) = (l.take i).flatMap f := by
    rw [List.take_append_of_le_length, flatK_takeL hf]
    rw [flatK_len hf]; exact Nat.mul_le_mul_right _ (by omega)
  refine ⟨(l.flatMap f ++ junk).drop (i * k + ((l.drop (i + 1)).flatMap f).length), ?_, ?_⟩
  · rw [List.length_drop, List.length_append, flatK_len hf, flatK_len hf, List.length_drop, ← Nat.add_mul]
    have e : l.length * k = (i + (l.length - (i + 1))) * k + k := by rw [← Nat.succ_mul]; congr 1; omega
    omega
  · unfold splice
    rw [h1, List.eraseIdx_eq_take_drop_succ, List.flatMap_append]
theorem splice_behind (A r vs : List Value) (h : vs.length ≤ r.length) : splice (A ++ r) A.length vs = A ++ (vs ++ r.drop vs.length) := by
  unfold splice
  rw [List.take_left, ← List.drop_drop, List.drop_left, List.append_assoc]
/-! ### the map -/
theorem lookD_modify {e : BitVec 64} {v : Value} : ∀ {l : List MRow} {k : Nat} {p : MRow}, l[k]? = some p → (l.map (·.1)).Nodup → lookD e (l.modify k fun p => (p.1, v, p.2.2)) = if e = p.1 then some v else lookD e l
  | q :: l, 0, p, h, hn => by
    obtain rfl : q = p := by simpa using h
    rw [List.modify_zero_cons, lookD_cons, lookD_cons]
    by_cases he : e = q.1 <;> simp [he]
  | q :: l, k + 1, p, h, hn => by
    have hn' : (l.map (·.1)).Nodup := by rw [List.map_cons, List.nodup_cons] at hn; exact hn.2
    have hq : q.1 ∉ l.map (·.1) := by rw [List.map_cons, List.nodup_cons] at hn; exact hn.1
    have hp : p.1 ∈ l.map (·.1) := List.mem_map.2 ⟨p, List.mem_of_getElem? (by simpa using h), rfl⟩
    rw [List.modify_succ_cons, lookD_cons, lookD_cons, lookD_modify (by simpa using h) hn']
    by_cases he : e = q.1
    · subst he
      rw [if_pos rfl, if_neg (fun e' : q.1 = p.1 => hq (by rw [e']; exact hp)), if_pos rfl]
    · rw [if_neg he, if_neg he]
theorem lookD_erase {e : BitVec 64} : ∀ {l : List MRow} {k : Nat} {p : MRow}, l[k]? = some p → (l.map (·.1)).Nodup → lookD e (l.eraseIdx k) = if e = p.1 then none else lookD e l
  | q :: l, 0, p, h, hn => by
    obtain rfl : q = p := by simpa using h
    rw [List.eraseIdx_cons_zero, lookD_cons]
    have hq : q.1 ∉ l.map (·.1) := by rw [List.map_cons, List.nodup_cons] at hn; exact hn.1
    by_cases he : e = q.1
    · subst he; rw [if_pos rfl]; exact lookD_keys.2 hq
    · rw [if_neg he, if_neg he]
  | q :: l, k + 1, p, h, hn => by
    have hn' : (l.map (·.1)).Nodup := by rw [List.map_cons, List.nodup_cons] at hn; exact hn.2
    have hq : q.1 ∉ l.map (·.1) := by rw [List.map_cons, List.nodup_cons] at hn; exact hn.1
    have hp : p.1 ∈ l.map (·.1) := List.mem_map.2 ⟨p, List.mem_of_getElem? (by simpa using h), rfl⟩
    rw [List.eraseIdx_cons_succ, lookD_cons, lookD_cons, lookD_erase (by simpa using h) hn']
    by_cases he : e = q.1
    · subst he
      rw [if_pos rfl, if_neg (fun e' : q.1 = p.1 => hq (by rw [e']; exact hp)), if_pos rfl]
    · rw [if_neg he, if_neg he]
theorem modify_keys (l : List MRow) (k : Nat) (v : Value) : (l.modify k fun p => (p.1, v, p.2.2)).map (·.1) = l.map (·.1) := by
  apply List.ext_getElem?
  intro j
  rw [List.getElem?_map, List.getElem?_map, List.getElem?_modify]
  by_cases h : k = j <;> cases l[j]? <;> simp [h]
theorem lookD_put {d e : BitVec 64} {v : Value} {l : List MRow} {clk : Nat} (hn : (l.map (·.1)).Nodup) : lookD e (putD d v l clk).1 = (if e = d then some v else lookD e l) ∧ ((putD d v l clk).1.map (·.1)).Nodup := by
  cases hf : findD d l 0 with
  | none =>
    have hl : lookD d l = none := by unfold lookD; rw [hf]; rfl
    rw [show putD d v l clk = (l ++ [(d, v, clk)], clk + 1) by unfold putD; rw [hf]]
    refine ⟨?_, ?_⟩
    · rw [lookD_app]
      by_cases he : e = d
      · subst he; rw [hl]; simp
      · simp only [if_neg he]; cases lookD e l <;> rfl
    · rw [List.map_append, List.nodup_append]
      refine ⟨hn, by simp, fun x hx y hy => ?_⟩
      rintro rfl
      obtain rfl : x = d := by simpa using hy
      exact lookD_keys.1 hl hx
  | some q =>
    obtain ⟨i, u⟩ := q
    obtain ⟨k, hik, p, h1, rfl, h3⟩ := findD_ge d l 0 i u hf
    obtain rfl : i = k := by omega
    rw [show putD p.1 v l clk = (l.modify i fun p => (p.1, v, p.2.2), clk) by unfold putD; rw [hf]]
    exact ⟨lookD_modify h1 hn, by rw [modify_keys]; exact hn⟩
theorem lookD_drop {d e : BitVec 64} {l : List MRow} (hn : (l.map (·.1)).Nodup) : lookD e (dropD d l) = (if e = d then none else lookD e l) ∧ ((dropD d l).map (·.1)).Nodup := by
  cases hf : findD d l 0 with
  | none =>
    have hl : lookD d l = none := by unfold lookD; rw [hf]; rfl
    rw [show dropD d l = l by unfold dropD; rw [hf]]
    refine ⟨?_, hn⟩
    by_cases he : e = d
    · subst he; rw [hl]; simp
    · rw [if_neg he]
  | some q =>
    obtain ⟨i, u⟩ := q
    obtain ⟨k, hik, p, h1, rfl, h3⟩ := findD_ge d l 0 i u hf
    obtain rfl : i = k := by omega
    rw [show dropD p.1 l = l.eraseIdx i by unfold dropD; rw [hf]]
    exact ⟨lookD_erase h1 hn, by rw [← erase_map]; exact hn.sublist (List.eraseIdx_sublist _ _)⟩
/-! ### places behind one that went -/
theorem ixA_eq {al : List App} {d : BitVec 64} (hn : (al.map (·.1)).Nodup) {i : Nat} (hi : i < al.length) (h : al[i].1 = d) : ixA d al = some i := h ▸ ixA_at hn hi
theorem ixA_none' {d : BitVec 64} {al : List App} (h : d ∉ al.map (·.1)) : ixA d al = none := by
  unfold ixA
  rw [List.findIdx?_eq_none_iff]
  intro a ha
  simp only [decide_eq_false_iff_not]
  rintro rfl
  exact h (List.mem_map.2 ⟨a, ha, rfl⟩)
theorem erase_nd {al : List App} (hn : (al.map (·.1)).Nodup) (i : Nat) : ((al.eraseIdx i).map (·.1)).Nodup := by
  rw [← erase_map]; exact hn.sublist (List.eraseIdx_sublist _ _)
/-- Where a hint stands, told by where it stands when one is gone. -/
theorem ixA_erase {al : List App} (hn : (al.map (·.1)).Nodup) {h d : BitVec 64} {i : Nat} (hi : ixA h al = some i) : (if d = h then none else ixA d al) = (ixA d (al.eraseIdx i)).map fun j => if j < i then j else j + 1 := by
  obtain ⟨hil, hih⟩ := ixA_some hi
  cases hx : ixA d (al.eraseIdx i) with
  | some j =>
    obtain ⟨hj, hjd⟩ := ixA_some hx
    have hjl : j < al.length - 1 := by rw [List.length_eraseIdx, if_pos hil] at hj; exact hj
    rw [List.getElem_eraseIdx] at hjd
    simp only [Option.map_some]
    by_cases hji : j < i
    · rw [if_pos hji]
      simp only [hji, dite_true] at hjd
      have he := ixA_eq hn (by omega) hjd
      rw [if_neg (fun e => by rw [e, hi] at he; cases he; omega), he]
    · rw [if_neg hji]
      simp only [hji, dite_false] at hjd
      have he := ixA_eq hn (by omega) hjd
      rw [if_neg (fun e => by rw [e, hi] at he; cases he; omega), he]
  | none =>
    simp only [Option.map_none]
    split
    · rfl
    · rename_i hne
      refine ixA_none' (fun hm => ixA_none hx ?_)
      obtain ⟨a, ha, rfl⟩ := List.mem_map.1 hm
      obtain ⟨j, hj, rfl⟩ := List.getElem_of_mem ha
      have hji : j ≠ i := fun e => hne (by subst e; exact hih)
      refine List.mem_map.2 ⟨al[j], ?_, rfl⟩
      rw [List.mem_eraseIdx_iff_getElem]
      exact ⟨j, hj, hji, rfl⟩
def Num (al : List App) (i k : Nat) (rows : List MRow) : Prop := (∀ d, lookD d rows = (ixA d al).map fun j => NV (if j < k ∨ j < i then j else j + 1)) ∧ (rows.map (·.1)).Nodup
theorem num_start {e : TypeId} {ml : List Am} {la : Option Addr} {c : Nat} {rows : List MRow} {NS NB : List Ent} (h : TWm e ml la c rows NS NB) (hn : ((ml.map Am.app).map (·.1)).Nodup) {d : BitVec 64} {i : Nat} (hi : ixA d (ml.map Am.app) = some i) : Num ((ml.eraseIdx i).map Am.app) i i (dropD d rows) := by
  have hl := fun x => lookD_drop (d := d) (e := x) h.keys
  refine ⟨fun x => ?_, (hl 0#64).2⟩
  rw [(hl x).1, h.map]
  have he := ixA_erase (d := x) hn hi
  rw [erase_map] at he
  by_cases hx : x = d
  · subst hx
    rw [if_pos rfl] at he ⊢
    cases hz : ixA x ((ml.eraseIdx i).map Am.app) with
    | none => rfl
    | some j => rw [hz] at he; cases he
  · rw [if_neg hx] at he ⊢
    rw [he, Option.map_map]
    cases ixA x ((ml.eraseIdx i).map Am.app) with
    | none => rfl
    | some j =>
      simp only [Option.map_some, Function.comp_apply]
      by_cases hj : j < i <;> simp [hj]
theorem num_step {al : List App} {i k clk : Nat} {rows : List MRow} (h : Num al i k rows) (hn : (al.map (·.1)).Nodup) (hk : k < al.length) : Num al i (k + 1) (putD al[k].1 (NV k) rows clk).1 := by
  have hl := fun x => lookD_put (d := al[k].1) (e := x) (v := NV k) (clk := clk) h.2
  refine ⟨fun x => ?_, (hl 0#64).2⟩
  rw [(hl x).1]
  by_cases hx : x = al[k].1
  · rw [if_pos hx, ixA_eq hn hk hx.symm]
    simp
  · rw [if_neg hx, h.1 x]
    cases hz : ixA x al with
    | none => rfl
    | some j =>
      obtain ⟨hj, hjx⟩ := ixA_some hz
      have hjk : j ≠ k := fun e => hx (by subst e; exact hjx.symm)
      simp only [Option.map_some]
      by_cases h1 : j < k ∨ j < i
      · rw [if_pos h1, if_pos (by omega)]
      · rw [if_neg h1, if_neg (by omega)]
theorem num_end {e : TypeId} {ml : List Am} {la : Option Addr} {c i : Nat} {rows : List MRow} {NS NB NS' : List Ent} {rows0 : List MRow} {c0 : Nat} {ml0 : List Am} {la0 : Option Addr} (h : Num (ml.map Am.app) i ml.length rows) (h0 : TWm e ml0 la0 c0 rows0 NS NB) (hs : ∀ a ∈ ml, a ∈ ml0) (ho : Own e 10 la ml.length c (ml.flatMap Am.L) NS') : TWm e ml la c rows NS' NB := by
  refine ⟨ho, fun a ha => h0.box a (hs a ha), fun d => ?_, h.2⟩
  rw [h.1 d]
  cases hz : ixA d (ml.map Am.app) with
  | none => rfl
  | some j =>
    obtain ⟨hj, _⟩ := ixA_some hz
    rw [List.length_map] at hj
    simp only [Option.map_some]
    rw [if_pos (.inl hj)]
section
variable {P : Program} {n : Nat} {w0 : World} {mods : List Nat} {k : Kont} {E : Env} {L : List Ent} {dst : Option Tmp} {T t ty : TypeId} {pos : String} {after : Array Edge} {g : Option (Nat × Bool)} {x y z z' : Operand}
theorem val_sliceLHM {ba : Option Addr} {len cap e size bytes l h m : Nat} {q q' q'' : IntKind} {j j' j'' : Int} (hk : sliOf P t = some (e, size, bytes)) (hx : Env.ev E x = some (.slice ba len cap)) (hy : Env.ev E y = some (.int q j)) (hz : Env.ev E z = some (.int q' j')) (hz' : Env.ev E z' = some (.int q'' j''))
    (hj : j = (l : Int)) (hj' : j' = (h : Int)) (hj'' : j'' = (m : Int)) (hl : l ≤ h ∧ h ≤ m ∧ m ≤ cap) :
    Val P n w0 mods E L ⟨dst, .slice t x (some y) (some z) (some z'), T, pos, after, g⟩ (.slice (sl ba m l size) (h - l) (m - l)) := fun _ w hf _ => by
  obtain ⟨hu, i, hi', h1, h2⟩ := sliOf_spec hk
  subst hj; subst hj'; subst hj''
  have h1' : (0 : Int) ≤ (m : Int) ∧ (m : Int) ≤ (cap : Int) := ⟨by omega, by omega⟩
  have h2' : (0 : Int) ≤ (h : Int) ∧ (h : Int) ≤ (m : Int) := ⟨by omega, by omega⟩
  have h3' : (0 : Int) ≤ (l : Int) ∧ (l : Int) ≤ (h : Int) := ⟨by omega, by omega⟩
  simp [execOp, hf.eval hx, hf.eval hy, hf.eval hz, hf.eval hz', Instr.sliceAt, Instr.slice, Instr.sliceBounds, Instr.sliceBound, asIntOf, run_underlying hu, h1', h2', h3', hl.1, hl.2.1, hl.2.2, sizeOf, typeInfo, hi', h1, sl]
/-- Appended where there is room. -/
theorem gs_appendR {ops : List Oper} {Q : Exit → Act → World → Prop} {K : Act → World → Prop} {L' : List Ent} {u e e' size bytes b nn c m d : Nat} {cs cs' ys : List Value} {v : Value} (hk : sliOf P t = some (e, size, bytes))
    (hx : Env.ev E x = some (.slice (some ⟨b, 0, none⟩) nn c)) (hy : Env.ev E y = some v) (hw : Env.wants E ops g = some true) (hn : Nat.ble (d + 1) n = true) (hroom : nn + m ≤ c) (hfits : nn * size + m * size ≤ cs.length)
    (hsrc : Brings P w0 mods L size u v m ys) (hs : splice cs (nn * size) ys = cs') (hr : Repl L b (.cells cs.toArray e' (0, 0)) (.cells cs'.toArray e' (0, 0)) L')
    (h : GX n w0 mods K ((d, .slice (some ⟨b, 0, none⟩) (nn + m) c) :: E) L') :
    GX n w0 mods (stepOp P ops Q (⟨some d, .call ⟨.builtin .append, #[x, y], #[t, u]⟩, T, pos, after, g⟩) K) E L := by
  intro a w hf hi
  subst hs
  obtain ⟨hut, inf, hinf, hsz, hby⟩ := sliOf_spec hk
  unfold stepOp
  rw [if_pos (hf.wants hw)]
  refine .inl ?_
  unfold Oper.wp
  have hS := hsrc w hi
  have hm := hS.newsLen
  have h1 := hS.one
  rw [← hsz] at hS
  obtain ⟨w', hst, hi'⟩ := Inv.store (off := nn * size) (vs := ys) hi hr (by omega) h1 P
  have hb := hi.has _ hr.mem
  have hb : w.heap[b]? = some (.cells cs.toArray e' (0, 0)) := hb
  have hcell : ∀ j, j < ys.length → (w.cell? ⟨b, 0 + nn * inf.size + j, none⟩).isSome = true := fun j hj => by
    rw [hsz, Nat.zero_add]
    simp [World.cell?, hb]
    omega
  have hfro : ∀ j, j < ys.length → w.frozen? ⟨b, 0 + nn * inf.size + j, none⟩ = false := fun j hj => by
    simp [World.frozen?, hb]
  have hrun := run_append_room_src w t u T e inf hut hinf b 0 nn c v m ys hS hroom hcell hfro
  have h3 := run_storeCells_cells (P := P) b (0 + nn * inf.size) ys 0 w (by simpa using hcell) (by simpa using hfro) h1
  simp only [Nat.add_zero, Nat.zero_add, hsz] at h3 hrun
  rw [hst] at h3
  injection h3 with _ h3
  rw [← h3] at hrun
  have : (execOp a.eval ⟨some d, .call ⟨.builtin .append, #[x, y], #[t, u]⟩, T, pos, after, g⟩).run P w = .ok (.value (.slice (some ⟨b, 0, none⟩) (nn + m) c)) w' := by
    simp [execOp, resolve, invoke, builtin, hf.eval hx, hf.eval hy, hrun]
  rw [this]
  exact h _ _ (hf.put (Nat.le_of_ble_eq_true hn)) hi'
/-- Cells made zero. -/
theorem gs_clear {ops : List Oper} {Q : Exit → Act → World → Prop} {K : Act → World → Prop} {L' : List Ent} {e e' size bytes b off m c : Nat} {cs cs' zs : List Value} {zv v : Value} (hk : sliOf P t = some (e, size, bytes)) (hz : zeroOf P e = some zv) (hzs : (Builtin.zeroCells zv.cells (m + 1)).toList = zs)
    (hx : Env.ev E x = some v) (hv : v = .slice (some ⟨b, off, none⟩) (m + 1) c) (hw : Env.wants E ops g = some true) (hfits : off + zs.length ≤ cs.length) (h1 : zs.all Value.oneCell' = true)
    (hs : splice cs off zs = cs') (hr : Repl L b (.cells cs.toArray e' (0, 0)) (.cells cs'.toArray e' (0, 0)) L')
    (h : GX n w0 mods K E L') :
    GX n w0 mods (stepOp P ops Q (⟨none, .call ⟨.builtin .clear, #[x], #[t]⟩, T, pos, after, g⟩) K) E L := by
  intro a w hf hi
  subst hs; subst hv; subst hzs
  obtain ⟨hut, inf, hinf, hsz, hby⟩ := sliOf_spec hk
  obtain ⟨inf', hinf', hz'⟩ := zeroOf_spec hz
  unfold stepOp
  rw [if_pos (hf.wants hw)]
  refine .inl ?_
  unfold Oper.wp
  obtain ⟨w', hst, hi'⟩ := Inv.store (off := off) (vs := (Builtin.zeroCells zv.cells (m + 1)).toList) hi hr hfits (fun u hu => List.all_eq_true.1 h1 u hu) P
  have : (execOp a.eval ⟨none, .call ⟨.builtin .clear, #[x], #[t]⟩, T, pos, after, g⟩).run P w = .ok (.value (.tuple #[])) w' := by
    simp [execOp, resolve, invoke, builtin, Builtin.clear_, hf.eval hx, run_underlying hut, zeroValue, typeInfo, hinf', hz', hst]
  rw [this]
  exact h _ _ hf hi'
theorem gs_delete0 {ops : List Oper} {Q : Exit → Act → World → Prop} {K : Act → World → Prop} {L' : List Ent} {kt et kt' : TypeId} {b : Nat} {l : List MRow} {clk : Nat} {d : BitVec 64} {u : Value} (hm : mapT P t = some (kt, et)) (hk : DigT P kt)
    (hx : Env.ev E x = some (.map (some b))) (hy : Env.ev E y = some u) (hu : u = Dig d) (hw : Env.wants E ops g = some true)
    (hr : Repl L b (.map (mapEs l) clk) (.map (mapEs (dropD d l)) clk) L')
    (h : GX n w0 mods K E L') : GX n w0 mods (stepOp P ops Q (⟨none, .call ⟨.builtin .delete, #[x, y], #[t, kt']⟩, T, pos, after, g⟩) K) E L := by
  intro a w hf hi
  subst hu
  unfold stepOp
  rw [if_pos (hf.wants hw)]
  refine .inl ?_
  unfold Oper.wp
  have hb := hi.has _ hr.mem
  have hb : w.heap[b]? = some (.map (mapEs l) clk) := hb
  have hmm := mapT_spec hm
  have hfk := run_findKey_dig hk d w l
  have hck := fun em => run_checkKey_dig hk d w em
  have hrun : (execOp a.eval ⟨none, .call ⟨.builtin .delete, #[x, y], #[t, kt']⟩, T, pos, after, g⟩).run P w = .ok (.value (.tuple #[])) { w with heap := w.heap.setIfInBounds b (.map (mapEs (dropD d l)) clk) } := by
    cases hfd : findD d l 0 with
    | none =>
      rw [hfd] at hfk
      have e : dropD d l = l := by unfold dropD; rw [hfd]
      rw [e]
      simp [execOp, resolve, invoke, builtin, Builtin.delete_, hf.eval hx, hf.eval hy, run_underlying hmm, run_getObj' hb, hck, hfk, run_setObj' _ hb]
    | some q =>
      obtain ⟨i, v⟩ := q
      rw [hfd] at hfk
      have e : dropD d l = l.eraseIdx i := by unfold dropD; rw [hfd]
      have e2 : (mapEs l).eraseIdxIfInBounds i = mapEs (l.eraseIdx i) := by
        unfold mapEs; apply Array.ext'; simp [erase_map]
      rw [e]
      simp [execOp, resolve, invoke, builtin, Builtin.delete_, hf.eval hx, hf.eval hy, run_underlying hmm, run_getObj' hb, hck, hfk, run_setObj' _ hb, e2]
  rw [hrun]
  exact h _ _ hf (hi.turnObj hr)
end
theorem sl_some {b cap l size : Nat} (h : cap ≠ l) : sl (some ⟨b, 0, none⟩) cap l size = some ⟨b, l * size, none⟩ := by
  unfold sl; rw [if_neg h, Option.map_some, add_mk, Nat.zero_add]
theorem ap_all (ml : List Am) : ∀ v ∈ ml.flatMap Am.L, v.oneCell' = true := fun v hv => by
  obtain ⟨a, _, h⟩ := List.mem_flatMap.1 hv
  exact ap_one a v h
theorem own_blk {e size nn c b : Nat} {xs : List Value} {N : List Ent} (h : Own e size (some ⟨b, 0, none⟩) nn c xs N) : ∃ junk, N = [⟨b, .cells (xs ++ junk).toArray e (0, 0)⟩] ∧ xs.length = nn * size ∧ c * size ≤ (xs ++ junk).length ∧ nn ≤ c := by
  cases h with
  | blk h1 h2 h3 => exact ⟨_, rfl, h1, h2, h3⟩
end Go.Eng
