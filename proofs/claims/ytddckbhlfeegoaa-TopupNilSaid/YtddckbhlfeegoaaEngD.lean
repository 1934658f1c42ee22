/-
  Engine, part D: memory, slices, calls.
-/
import Derived.Test.YtddckbhlfeegoaaEngC
namespace Go.Eng
open Go
set_option linter.unusedVariables false
set_option linter.unusedSimpArgs false

/-! ### what is read -/
/-- The cells behind an address. -/
def At (w : World) (pa : Option Addr) (cs : List Value) : Prop := ∀ i v, cs[i]? = some v → ∃ a, pa = some a ∧ w.cell? (a.add i) = some v
/-- The same in every world that is meant. -/
def Sees (w0 : World) (mods : List Nat) (L : List Ent) (pa : Option Addr) (cs : List Value) : Prop := ∀ w, Inv w0 mods L w → At w pa cs
/-- Cells that are there at a function's begin, and that it doesn't turn. -/
def Row (w : World) (mods : List Nat) (pa : Option Addr) (cs : List Value) : Prop := ∀ i v, cs[i]? = some v → ∃ a, pa = some a ∧ a.block ∉ mods ∧ w.cell? (a.add i) = some v

theorem add_block (a : Addr) (k : Nat) : (a.add k).block = a.block := by unfold Addr.add; split <;> rfl
theorem add_zero (a : Addr) : a.add 0 = a := rfl
theorem add_add (a : Addr) (i j : Nat) : (a.add i).add j = a.add (i + j) := by
  unfold Addr.add
  by_cases hi : i = 0 <;> by_cases hj : j = 0 <;> simp [hi, hj, Nat.add_assoc]
theorem add_mk (b o i : Nat) : (⟨b, o, none⟩ : Addr).add i = ⟨b, o + i, none⟩ := by unfold Addr.add; split <;> simp_all
theorem cell_lt {w : World} {a : Addr} {v : Value} (h : w.cell? a = some v) : a.block < w.heap.size := by
  rcases Nat.lt_or_ge a.block w.heap.size with h' | h'
  · exact h'
  · unfold World.cell? at h
    rw [Array.getElem?_eq_none h'] at h
    cases h
theorem cell_cells {w : World} {b off : Nat} {bs : List Value} {T : TypeId} {fz : Nat × Nat} (h : w.heap[b]? = some (.cells bs.toArray T fz)) : w.cell? ⟨b, off, none⟩ = bs[off]? := by
  unfold World.cell?
  simp [h]

theorem At.mono {w : World} {pa : Option Addr} {cs ds : List Value} (h : At w pa cs) (hp : ∀ (i : Nat) (v : Value), ds[i]? = some v → cs[i]? = some v) : At w pa ds := fun i v hv => h i v (hp i v hv)
theorem At.part {w : World} {pa : Option Addr} {cs : List Value} (h : At w pa cs) (k : Nat) : At w (pa.map (·.add k)) (cs.drop k) := fun i v hv => by
  rw [List.getElem?_drop] at hv
  obtain ⟨a, rfl, ha⟩ := h _ v hv
  exact ⟨_, rfl, by rw [add_add]; exact ha⟩

section
variable {w0 : World} {mods : List Nat} {L : List Ent} {pa : Option Addr} {cs ds : List Value}
theorem sees_row (h : Row w0 mods pa cs) : Sees w0 mods L pa cs := fun w hi i v hv => by
  obtain ⟨a, rfl, hm, hc⟩ := h i v hv
  refine ⟨a, rfl, ?_⟩
  have hb := cell_lt hc
  rw [add_block] at hb
  have := hi.frame a.block hb hm
  rw [← hc]
  unfold World.cell?
  rw [add_block, this]
theorem sees_mem {b off : Nat} {bs : List Value} {T : TypeId} {fz : Nat × Nat} (h : ⟨b, .cells bs.toArray T fz⟩ ∈ L) : Sees w0 mods L (some ⟨b, off, none⟩) (bs.drop off) := fun w hi i v hv => by
  refine ⟨_, rfl, ?_⟩
  rw [add_mk, cell_cells (hi.has _ h)]
  rwa [List.getElem?_drop] at hv
theorem sees_all {b : Nat} {bs : List Value} {T : TypeId} {fz : Nat × Nat} (h : ⟨b, .cells bs.toArray T fz⟩ ∈ L) : Sees w0 mods L (some ⟨b, 0, none⟩) bs := by
  have := sees_mem (w0 := w0) (mods := mods) (off := 0) h
  simpa using this
theorem sees_nil : Sees w0 mods L pa [] := fun w hi i v hv => by simp at hv
theorem Sees.part (h : Sees w0 mods L pa cs) (k : Nat) : Sees w0 mods L (pa.map (·.add k)) (cs.drop k) := fun w hi => (h w hi).part k
theorem Sees.take (h : Sees w0 mods L pa cs) (k : Nat) : Sees w0 mods L pa (cs.take k) := fun w hi => (h w hi).mono fun i v hv => by
  rw [List.getElem?_take] at hv
  split at hv
  · exact hv
  · cases hv
theorem Sees.elem {α : Type} {f : α → Value} {l : List α} {ba : Option Addr} {m : Nat} (h : Sees w0 mods L ba (l.map f)) (hk : m < l.length) : Sees w0 mods L (ba.map (·.add (m * 1))) [f l[m]] := fun w hi i v hv => by
  have hi0 : i = 0 := by
    rcases i with _ | i
    · rfl
    · simp at hv
  subst hi0
  refine (h.part (m * 1)) w hi 0 v ?_
  rw [List.getElem?_drop]
  simp at hv
  simp [hk, hv]
theorem row_of_sees (h : Sees w0 mods L pa cs) : ∀ w, Inv w0 mods L w → Row w [] pa cs := fun w hi i v hv => by
  obtain ⟨a, h1, h2⟩ := h w hi i v hv
  exact ⟨a, h1, by simp, h2⟩
theorem row_of_row {b : Nat} {o : Obj} (h : Row w0 mods pa cs) (hm : ⟨b, o⟩ ∈ L) : ∀ w, Inv w0 mods L w → Row w [b] pa cs := fun w hi i v hv => by
  obtain ⟨a, h1, h2⟩ := sees_row h w hi i v hv
  obtain ⟨a', h3, h4, h5⟩ := h i v hv
  rw [h1] at h3; cases h3
  refine ⟨a, h1, ?_, h2⟩
  have hb := cell_lt h5
  rw [add_block] at hb
  intro hmem
  have : a.block = b := by simpa using hmem
  rcases hi.may _ hm with h6 | h6
  · exact h4 (this ▸ h6)
  · simp at h6; omega
/-- Two entries at two places. -/
inductive Apart : List Ent → Nat → Obj → Nat → Obj → Prop
  | one {b1 b2 : Nat} {o1 o2 : Obj} {R : List Ent} : ⟨b2, o2⟩ ∈ R → Apart (⟨b1, o1⟩ :: R) b1 o1 b2 o2
  | two {b1 b2 : Nat} {o1 o2 : Obj} {R : List Ent} : ⟨b1, o1⟩ ∈ R → Apart (⟨b2, o2⟩ :: R) b1 o1 b2 o2
  | tail {e : Ent} {b1 b2 : Nat} {o1 o2 : Obj} {R : List Ent} : Apart R b1 o1 b2 o2 → Apart (e :: R) b1 o1 b2 o2
theorem Apart.mem {L : List Ent} {b1 b2 : Nat} {o1 o2 : Obj} (h : Apart L b1 o1 b2 o2) : ⟨b1, o1⟩ ∈ L ∧ ⟨b2, o2⟩ ∈ L := by
  induction h with
  | one h => exact ⟨.head _, .tail _ h⟩
  | two h => exact ⟨.tail _ h, .head _⟩
  | tail _ ih => exact ⟨.tail _ ih.1, .tail _ ih.2⟩
theorem Apart.ne {L : List Ent} {b1 b2 : Nat} {o1 o2 : Obj} (h : Apart L b1 o1 b2 o2) (hn : (L.map Ent.b).Nodup) : b1 ≠ b2 := by
  induction h with
  | one h =>
    simp only [List.map_cons, List.nodup_cons] at hn
    rintro rfl
    exact hn.1 (List.mem_map.2 ⟨_, h, rfl⟩)
  | two h =>
    simp only [List.map_cons, List.nodup_cons] at hn
    rintro rfl
    exact hn.1 (List.mem_map.2 ⟨_, h, rfl⟩)
  | tail _ ih =>
    simp only [List.map_cons, List.nodup_cons] at hn
    exact ih hn.2
theorem row_of_own {b1 b2 : Nat} {o2 : Obj} {junk : List Value} {T : TypeId} {fz : Nat × Nat} (ha : Apart L b1 (.cells (cs ++ junk).toArray T fz) b2 o2) : ∀ w, Inv w0 mods L w → Row w [b2] (some ⟨b1, 0, none⟩) cs := fun w hi i v hv => by
  have hlt : i < cs.length := (List.getElem?_eq_some_iff.1 hv).1
  obtain ⟨a, h1, h2⟩ := sees_all (w0 := w0) (mods := mods) ha.mem.1 w hi i v (by rw [List.getElem?_append_left hlt]; exact hv)
  cases h1
  exact ⟨_, rfl, by simpa using ha.ne hi.nodup, h2⟩
theorem Sees.cast (h : Sees w0 mods L pa cs) (e : cs = ds) : Sees w0 mods L pa ds := e ▸ h
end

/-! ### facts on types, reckoned by the kernel -/
/-- How many cells a variable of the type has, if it is a struct or an array; 'none' in it: one cell. -/
def aggOf (P : Program) (t : TypeId) : Option (Option Nat) :=
  match P.underlying t, P.info? t with
  | some (.struct _), some i => some (some i.size)
  | some (.array _ _), some i => some (some i.size)
  | some _, some i => if i.size = 1 then some none else none
  | _, _ => none
/-- The offset of a field (that has a cell). -/
def fieldOff (P : Program) (s : TypeId) (f : Nat) : Option Nat :=
  match P.underlying s with
  | some (.struct fs) => match fs[f]? with
    | some d => match P.info? d.type with
      | some i => if i.size = 0 then none else some d.offset
      | none => none
    | none => none
  | _ => none
/-- An array's length, and its elements' size. -/
def arrOf (P : Program) (t : TypeId) : Option (Nat × Nat) :=
  match P.underlying t with
  | some (.array n e) => (P.info? e).map fun i => (n, i.size)
  | _ => none
/-- A slice's elements' size and bytes. -/
def sliOf (P : Program) (t : TypeId) : Option (TypeId × Nat × Nat) :=
  match P.underlying t with
  | some (.slice e) => (P.info? e).map fun i => (e, i.size, i.bytes)
  | _ => none
def zeroOf (P : Program) (t : TypeId) : Option Value := (P.info? t).bind (·.zero)

theorem sliOf_spec {P : Program} {t e s b : Nat} (h : sliOf P t = some (e, s, b)) : P.underlying t = some (.slice e) ∧ ∃ i, P.info? e = some i ∧ i.size = s ∧ i.bytes = b := by
  unfold sliOf at h
  split at h
  · rename_i e' hu
    rw [Option.map_eq_some_iff] at h
    obtain ⟨i, hi, he⟩ := h
    cases he
    exact ⟨hu, i, hi, rfl, rfl⟩
  · cases h
theorem arrOf_spec {P : Program} {t n s : Nat} (h : arrOf P t = some (n, s)) : ∃ e, P.underlying t = some (.array n e) ∧ ∃ i, P.info? e = some i ∧ i.size = s := by
  unfold arrOf at h
  split at h
  · rename_i m e' hu
    rw [Option.map_eq_some_iff] at h
    obtain ⟨i, hi, he⟩ := h
    cases he
    exact ⟨e', hu, i, hi, rfl⟩
  · cases h
theorem zeroOf_spec {P : Program} {t : Nat} {z : Value} (h : zeroOf P t = some z) : ∃ i, P.info? t = some i ∧ i.zero = some z := by
  unfold zeroOf at h
  cases hi : P.info? t with
  | none => rw [hi] at h; cases h
  | some i => rw [hi] at h; exact ⟨i, rfl, h⟩

theorem run_loadVar1 {P : Program} {t : TypeId} (h : aggOf P t = some none) {a : Addr} {v : Value} {w : World} (hc : w.cell? a = some v) : (loadVar t a).run P w = .ok v w := by
  unfold aggOf at h
  split at h
  · cases h
  · cases h
  · rename_i d i h1 h2 hu hi
    unfold loadVar isAgg
    cases d <;> first
      | (exact (h1 _ rfl).elim)
      | (exact (h2 _ _ rfl).elim)
      | (simp [run_underlying hu, hc])
  · cases h
theorem run_loadVarA {P : Program} {t m : Nat} (h : aggOf P t = some (some m)) {a : Addr} {cs : List Value} {w : World} (hl : cs.length = m) (hc : At w (some a) cs) : (loadVar t a).run P w = .ok (.agg cs.toArray) w := by
  have hc' : ∀ j v, cs[j]? = some v → w.cell? (a.add j) = some v := fun j v hv => by
    obtain ⟨a', he, h'⟩ := hc j v hv
    cases he; exact h'
  have hr := run_loadCells_list (P := P) w a cs hc'
  rw [hl] at hr
  unfold aggOf at h
  split at h
  · rename_i fs i hu hi
    cases h
    simp [loadVar, isAgg, run_underlying hu, sizeOf, typeInfo, hi, hr]
  · rename_i x e i hu hi
    cases h
    simp [loadVar, isAgg, run_underlying hu, sizeOf, typeInfo, hi, hr]
  · rename_i hu hi
    split at h <;> cases h
  · cases h

section
variable {P : Program} {n : Nat} {w0 : World} {mods : List Nat} {k : Kont} {E : Env} {L : List Ent}
variable {dst : Option Tmp} {T t ty : TypeId} {pos : String} {after : Array Edge} {g : Option (Nat × Bool)} {x y z : Operand} {op : BinOp}

/-! ### loads, addresses -/
theorem val_load1 {pa : Option Addr} {cs : List Value} {v : Value} (hk : aggOf P t = some none) (hx : Env.ev E x = some (.pointer pa)) (hs : Sees w0 mods L pa cs) (hv : cs[0]? = some v) :
    Val P n w0 mods E L ⟨dst, .load t x, T, pos, after, g⟩ v := fun a w hf hi => by
  obtain ⟨b, rfl, hb⟩ := hs w hi 0 v hv
  have hb : w.cell? b = some v := hb
  simp [execOp, hf.eval hx, Instr.loadAt, Instr.sureAddr, run_loadVar1 hk hb]
theorem val_loadA {pa : Option Addr} {cs ds : List Value} {m : Nat} (hk : aggOf P t = some (some (m + 1))) (hx : Env.ev E x = some (.pointer pa)) (hs : Sees w0 mods L pa cs) (he : cs.take (m + 1) = ds) (hl : ds.length = m + 1) :
    Val P n w0 mods E L ⟨dst, .load t x, T, pos, after, g⟩ (.agg ds.toArray) := fun a w hf hi => by
  have h2 := hs.take (m + 1) w hi
  rw [he] at h2
  match ds, hl with
  | d :: ds', hl =>
    obtain ⟨b, rfl, hb⟩ := h2 0 d rfl
    simp [execOp, hf.eval hx, Instr.loadAt, Instr.sureAddr, run_loadVarA hk hl h2]
/-- A result that lies in memory. -/
theorem resv_cell1 {s t : Nat} {pa : Option Addr} {cs : List Value} {v : Value} {rs : List ResultVar} {vs : List Value} (hk : aggOf P t = some none) (h : Env.find E s = some (.pointer pa)) (hsee : Sees w0 mods L pa cs) (hv : cs[0]? = some v)
    (hs : ResV P w0 mods E L rs vs) : ResV P w0 mods E L (.cell s t :: rs) (v :: vs) :=
  .cons (fun n a w hf hi => by
    obtain ⟨b, rfl, hb⟩ := hsee w hi 0 v hv
    have hb : w.cell? b = some v := hb
    have := hf.at' s _ h
    simp [this, asAddr]
    exact run_loadVar1 hk hb) hs
theorem resv_cellA {s t : Nat} {pa : Option Addr} {cs ds : List Value} {m : Nat} {rs : List ResultVar} {vs : List Value} (hk : aggOf P t = some (some (m + 1))) (h : Env.find E s = some (.pointer pa)) (hsee : Sees w0 mods L pa cs) (he : cs.take (m + 1) = ds)
    (hl : ds.length = m + 1) (hs : ResV P w0 mods E L rs vs) : ResV P w0 mods E L (.cell s t :: rs) (.agg ds.toArray :: vs) :=
  .cons (fun n a w hf hi => by
    have h2 := hsee.take (m + 1) w hi
    rw [he] at h2
    have h3 := hf.at' s _ h
    match ds, hl with
    | d :: ds', hl =>
      obtain ⟨b, rfl, hb⟩ := h2 0 d rfl
      simp [h3, asAddr]
      exact run_loadVarA hk hl h2) hs

theorem val_nilCheck {a : Addr} (hx : Env.ev E x = some (.pointer (some a))) : Val P n w0 mods E L ⟨dst, .nilCheck x, T, pos, after, g⟩ (.pointer (some a)) := fun _ w hf _ => by
  simp [execOp, hf.eval hx]
theorem val_nilCheckF {f : FuncId} {fs cs : Array Value} (hx : Env.ev E x = some (.func (.func f) fs cs)) : Val P n w0 mods E L ⟨dst, .nilCheck x, T, pos, after, g⟩ (.func (.func f) fs cs) := fun _ w hf _ => by
  simp [execOp, hf.eval hx]
theorem val_fieldAddr {b o off f : Nat} (hk : fieldOff P t f = some off) (hx : Env.ev E x = some (.pointer (some ⟨b, o, none⟩))) : Val P n w0 mods E L ⟨dst, .fieldAddr t x f, T, pos, after, g⟩ (.pointer (some ⟨b, o + off, none⟩)) := fun _ w hf _ => by
  unfold fieldOff at hk
  split at hk
  · rename_i fs hu
    split at hk
    · rename_i d hd
      split at hk
      · rename_i i hi
        split at hk
        · cases hk
        · rename_i hz
          cases hk
          simp [execOp, hf.eval hx, Instr.fieldAt, run_underlying hu, hd, Instr.sureAddr, fieldPlace, sizeOf, typeInfo, hi, hz, add_mk]
      · cases hk
    · cases hk
  · cases hk
theorem val_indexArr {b o len size m : Nat} {q : IntKind} {j : Int} (hk : arrOf P t = some (len, size)) (hx : Env.ev E x = some (.pointer (some ⟨b, o, none⟩))) (hy : Env.ev E y = some (.int q j)) (hj : j = (m : Int)) (hm : m < len) :
    Val P n w0 mods E L ⟨dst, .indexAddr t x y, T, pos, after, g⟩ (.pointer (some ⟨b, o + m * size, none⟩)) := fun _ w hf _ => by
  obtain ⟨e, hu, i, hi, hs⟩ := arrOf_spec hk
  subst hj
  have h1 : (0 : Int) ≤ (m : Int) ∧ (m : Int) < (len : Int) := ⟨by omega, by omega⟩
  simp [execOp, hf.eval hx, hf.eval hy, Instr.indexAt, asIntOf, run_underlying hu, Instr.sureAddr, h1, sizeOf, typeInfo, hi, hs, add_mk]
  omega
theorem val_indexSli {ba : Option Addr} {cs : List Value} {len cap e size bytes m : Nat} {q : IntKind} {j : Int} (hk : sliOf P t = some (e, size, bytes)) (hx : Env.ev E x = some (.slice ba len cap)) (hy : Env.ev E y = some (.int q j)) (hj : j = (m : Int)) (hm : m < len)
    (hs : Sees w0 mods L ba cs) (hl : m * size < cs.length) :
    Val P n w0 mods E L ⟨dst, .indexAddr t x y, T, pos, after, g⟩ (.pointer (ba.map (·.add (m * size)))) := fun _ w hf hi => by
  obtain ⟨hu, i, hi', h1, h2⟩ := sliOf_spec hk
  subst hj
  obtain ⟨a, rfl, _⟩ := hs w hi _ _ (List.getElem?_eq_getElem hl)
  have h1 : (0 : Int) ≤ (m : Int) ∧ (m : Int) < (len : Int) := ⟨by omega, by omega⟩
  simp [execOp, hf.eval hx, hf.eval hy, Instr.indexAt, asIntOf, run_underlying hu, h1, sizeOf, typeInfo, hi', *]
theorem val_lenSli {ba : Option Addr} {len cap e size bytes : Nat} (hk : sliOf P t = some (e, size, bytes)) (hx : Env.ev E x = some (.slice ba len cap)) :
    Val P n w0 mods E L ⟨dst, .call ⟨.builtin .len, #[x], #[t]⟩, T, pos, after, g⟩ (I64 (len : Int)) := fun _ w hf _ => by
  obtain ⟨hu, _⟩ := sliOf_spec hk
  simp [execOp, resolve, invoke, builtin, Builtin.len_, hf.eval hx, run_underlying hu, goInt]
theorem val_capSli {ba : Option Addr} {len cap e size bytes : Nat} (hk : sliOf P t = some (e, size, bytes)) (hx : Env.ev E x = some (.slice ba len cap)) :
    Val P n w0 mods E L ⟨dst, .call ⟨.builtin .cap, #[x], #[t]⟩, T, pos, after, g⟩ (I64 (cap : Int)) := fun _ w hf _ => by
  obtain ⟨hu, _⟩ := sliOf_spec hk
  simp [execOp, resolve, invoke, builtin, Builtin.cap_, hf.eval hx, run_underlying hu, goInt]
theorem val_lenStr {s : ByteArray} (hk : P.underlying t = some .string) (hx : Env.ev E x = some (.string s)) :
    Val P n w0 mods E L ⟨dst, .call ⟨.builtin .len, #[x], #[t]⟩, T, pos, after, g⟩ (I64 (s.size : Int)) := fun _ w hf _ => by
  simp [execOp, resolve, invoke, builtin, Builtin.len_, hf.eval hx, run_underlying hk, goInt]
theorem val_lenArr {v : Value} {len size : Nat} (hk : arrOf P t = some (len, size)) (hx : Env.ev E x = some v) :
    Val P n w0 mods E L ⟨dst, .call ⟨.builtin .len, #[x], #[t]⟩, T, pos, after, g⟩ (I64 (len : Int)) := fun _ w hf _ => by
  obtain ⟨e, hu, _⟩ := arrOf_spec hk
  simp [execOp, resolve, invoke, builtin, Builtin.len_, hf.eval hx, run_underlying hu, goInt]
theorem val_extract {vs : List Value} {v : Value} {i : Nat} (hx : Env.ev E x = some (.tuple vs.toArray)) (hv : vs[i]? = some v) : Val P n w0 mods E L ⟨dst, .extract x i, T, pos, after, g⟩ v := fun _ w hf _ => by
  simp [execOp, hf.eval hx, Instr.extract, hv]

/-! ### slicing -/
/-- Where x[l:..] begins. -/
def sl (ba : Option Addr) (cap l size : Nat) : Option Addr := if cap = l then ba else ba.map (·.add (l * size))
theorem sl_zero (ba : Option Addr) (cap size : Nat) : sl ba cap 0 size = ba := by
  unfold sl
  split
  · rfl
  · rw [Nat.zero_mul]; cases ba <;> rfl
theorem Sees.sl {ba : Option Addr} {cs : List Value} {cap l size : Nat} (h : Sees w0 mods L ba cs) (hc : cs.length ≤ cap * size) : Sees w0 mods L (Eng.sl ba cap l size) (cs.drop (l * size)) := by
  unfold Eng.sl
  split
  · rename_i he
    subst he
    rw [List.drop_eq_nil_of_le hc]
    exact sees_nil
  · exact h.part _
theorem Row.sl {ba : Option Addr} {cs : List Value} {cap l size : Nat} {w : World} (h : Row w mods ba cs) (hc : cs.length ≤ cap * size) : Row w mods (Eng.sl ba cap l size) (cs.drop (l * size)) := by
  unfold Eng.sl
  split
  · rename_i he
    subst he
    rw [List.drop_eq_nil_of_le hc]
    intro i v hv
    simp at hv
  · intro i v hv
    rw [List.getElem?_drop] at hv
    obtain ⟨a, rfl, hm, ha⟩ := h _ v hv
    exact ⟨_, rfl, by rw [add_block]; exact hm, by rw [add_add]; exact ha⟩
theorem Row.take {ba : Option Addr} {cs : List Value} {w : World} (h : Row w mods ba cs) (m : Nat) : Row w mods ba (cs.take m) := fun i v hv => by
  rw [List.getElem?_take] at hv
  split at hv
  · exact h i v hv
  · cases hv

theorem val_sliceL {ba : Option Addr} {len cap e size bytes l : Nat} {q : IntKind} {j : Int} (hk : sliOf P t = some (e, size, bytes)) (hx : Env.ev E x = some (.slice ba len cap)) (hy : Env.ev E y = some (.int q j)) (hj : j = (l : Int)) (hl : l ≤ len) :
    Val P n w0 mods E L ⟨dst, .slice t x (some y) none none, T, pos, after, g⟩ (.slice (sl ba cap l size) (len - l) (cap - l)) := fun _ w hf _ => by
  obtain ⟨hu, i, hi', h1, h2⟩ := sliOf_spec hk
  subst hj
  have h1' : (0 : Int) ≤ (l : Int) ∧ (l : Int) ≤ (len : Int) := ⟨by omega, by omega⟩
  simp [execOp, hf.eval hx, hf.eval hy, Instr.sliceAt, Instr.slice, Instr.sliceBounds, Instr.sliceBound, asIntOf, run_underlying hu, h1', hl, sizeOf, typeInfo, hi', h1, sl]
theorem val_sliceH {ba : Option Addr} {len cap e size bytes h : Nat} {q : IntKind} {j : Int} (hk : sliOf P t = some (e, size, bytes)) (hx : Env.ev E x = some (.slice ba len cap)) (hy : Env.ev E y = some (.int q j)) (hj : j = (h : Int)) (hl : h ≤ cap) :
    Val P n w0 mods E L ⟨dst, .slice t x none (some y) none, T, pos, after, g⟩ (.slice ba h cap) := fun _ w hf _ => by
  obtain ⟨hu, i, hi', h1, h2⟩ := sliOf_spec hk
  subst hj
  have h1' : (0 : Int) ≤ (h : Int) ∧ (h : Int) ≤ (cap : Int) := ⟨by omega, by omega⟩
  have := sl_zero ba cap size
  unfold sl at this
  simp [execOp, hf.eval hx, hf.eval hy, Instr.sliceAt, Instr.slice, Instr.sliceBounds, Instr.sliceBound, asIntOf, run_underlying hu, h1', hl, sizeOf, typeInfo, hi', h1]
  simpa using this
theorem val_sliceLH {ba : Option Addr} {len cap e size bytes l h : Nat} {q q' : IntKind} {j j' : Int} (hk : sliOf P t = some (e, size, bytes)) (hx : Env.ev E x = some (.slice ba len cap)) (hy : Env.ev E y = some (.int q j)) (hz : Env.ev E z = some (.int q' j'))
    (hj : j = (l : Int)) (hj' : j' = (h : Int)) (hl : l ≤ h ∧ h ≤ cap) :
    Val P n w0 mods E L ⟨dst, .slice t x (some y) (some z) none, T, pos, after, g⟩ (.slice (sl ba cap l size) (h - l) (cap - l)) := fun _ w hf _ => by
  obtain ⟨hu, i, hi', h1, h2⟩ := sliOf_spec hk
  subst hj; subst hj'
  have h1' : (0 : Int) ≤ (h : Int) ∧ (h : Int) ≤ (cap : Int) := ⟨by omega, by omega⟩
  have h2' : (0 : Int) ≤ (l : Int) ∧ (l : Int) ≤ (h : Int) := ⟨by omega, by omega⟩
  simp [execOp, hf.eval hx, hf.eval hy, hf.eval hz, Instr.sliceAt, Instr.slice, Instr.sliceBounds, Instr.sliceBound, asIntOf, run_underlying hu, h1', h2', hl.1, hl.2, sizeOf, typeInfo, hi', h1, sl]
/-- xs[:h:m] -/
theorem val_sliceHM {ba : Option Addr} {len cap e size bytes h m : Nat} {q q' : IntKind} {j j' : Int} (hk : sliOf P t = some (e, size, bytes)) (hx : Env.ev E x = some (.slice ba len cap)) (hy : Env.ev E y = some (.int q j)) (hz : Env.ev E z = some (.int q' j'))
    (hj : j = (h : Int)) (hj' : j' = (m : Int)) (hl : h ≤ m ∧ m ≤ cap) :
    Val P n w0 mods E L ⟨dst, .slice t x none (some y) (some z), T, pos, after, g⟩ (.slice ba h m) := fun _ w hf _ => by
  obtain ⟨hu, i, hi', h1, h2⟩ := sliOf_spec hk
  subst hj; subst hj'
  have h1' : (0 : Int) ≤ (m : Int) ∧ (m : Int) ≤ (cap : Int) := ⟨by omega, by omega⟩
  have h2' : (0 : Int) ≤ (h : Int) ∧ (h : Int) ≤ (m : Int) := ⟨by omega, by omega⟩
  have := sl_zero ba m size
  unfold sl at this
  simp [execOp, hf.eval hx, hf.eval hy, hf.eval hz, Instr.sliceAt, Instr.slice, Instr.sliceBounds, Instr.sliceBound, asIntOf, run_underlying hu, h1', h2', hl.1, hl.2, sizeOf, typeInfo, hi', h1]
  simpa using this
/-- arr[:] at an array's address -/
theorem val_sliceArr {b o len size : Nat} (hk : arrOf P t = some (len, size)) (hx : Env.ev E x = some (.pointer (some ⟨b, o, none⟩))) :
    Val P n w0 mods E L ⟨dst, .slice t x none none none, T, pos, after, g⟩ (.slice (some ⟨b, o, none⟩) len len) := fun _ w hf _ => by
  obtain ⟨e, hu, i, hi, hs⟩ := arrOf_spec hk
  simp [execOp, hf.eval hx, Instr.sliceAt, Instr.sureAddr, Instr.sliceBounds, run_underlying hu, sizeOf, typeInfo, hi, hs, add_zero]

/-! ### new memory, stores -/
theorem gs_push {ops : List Oper} {Q : Exit → Act → World → Prop} {K : Act → World → Prop} {o : Oper} {d : Nat} {ob : Obj} (hw : Env.wants E ops o.guard = some true) (hd : o.dst = some d) (hn : Nat.ble (d + 1) n = true)
    (hr : ∀ a w, Fits n E a → Inv w0 mods L w → (execOp a.eval o).run P w = .ok (.value (.pointer (some ⟨w.heap.size, 0, none⟩))) { w with heap := w.heap.push ob })
    (h : ∀ b, GX n w0 mods K ((d, .pointer (some ⟨b, 0, none⟩)) :: E) (⟨b, ob⟩ :: L)) : GX n w0 mods (stepOp P ops Q o K) E L := by
  intro a w hf hi
  unfold stepOp
  rw [if_pos (hf.wants hw)]
  refine .inl ?_
  unfold Oper.wp
  rw [hr a w hf hi]
  show K (a.put o.dst _) _
  rw [hd]
  exact h _ _ _ (hf.put (Nat.le_of_ble_eq_true hn)) (hi.push ob)
theorem gs_box {ops : List Oper} {Q : Exit → Act → World → Prop} {K : Act → World → Prop} {d : Nat} {v : Value} {cs : List Value} {e : TypeId} (hx : Env.ev E x = some v) (hc : v.cells = cs.toArray) (hw : Env.wants E ops g = some true) (hn : Nat.ble (d + 1) n = true)
    (h : ∀ b, GX n w0 mods K ((d, .pointer (some ⟨b, 0, none⟩)) :: E) (⟨b, .cells cs.toArray e (0, 0)⟩ :: L)) : GX n w0 mods (stepOp P ops Q (⟨some d, .box e x, T, pos, after, g⟩) K) E L :=
  gs_push (hw := hw) (hd := rfl) (hn := hn) (fun a w hf hi => by simp [execOp, hf.eval hx, Instr.box, newVar, newRow, hc]) h
theorem gs_alloc {ops : List Oper} {Q : Exit → Act → World → Prop} {K : Act → World → Prop} {d : Nat} {v : Value} {cs : List Value} {e : TypeId} (hz : zeroOf P e = some v) (hc : v.cells = cs.toArray) (hw : Env.wants E ops g = some true) (hn : Nat.ble (d + 1) n = true)
    (h : ∀ b, GX n w0 mods K ((d, .pointer (some ⟨b, 0, none⟩)) :: E) (⟨b, .cells cs.toArray e (0, 0)⟩ :: L)) : GX n w0 mods (stepOp P ops Q (⟨some d, .alloc e, T, pos, after, g⟩) K) E L := by
  obtain ⟨i, hi', hz'⟩ := zeroOf_spec hz
  exact gs_push (hw := hw) (hd := rfl) (hn := hn) (fun a w hf hi => by simp [execOp, Instr.alloc, zeroValue, typeInfo, hi', hz', newVar, newRow, hc]) h

/-- What a store of these cells makes of the block. -/
def splice (cs : List Value) (off : Nat) (vs : List Value) : List Value := cs.take off ++ vs ++ cs.drop (off + vs.length)
theorem splice_all (cs vs : List Value) (h : cs.length ≤ vs.length) : splice cs 0 vs = vs := by
  unfold splice; simp [h]
theorem splice_one (cs : List Value) (off : Nat) (v : Value) (h : off < cs.length) : splice cs off [v] = cs.set off v := by
  unfold splice; rw [List.set_eq_take_append_cons_drop, if_pos h]; simp

theorem Inv.store {w : World} {L' : List Ent} {b off : Nat} {cs vs : List Value} {e : TypeId} (h : Inv w0 mods L w) (hr : Repl L b (.cells cs.toArray e (0, 0)) (.cells (splice cs off vs).toArray e (0, 0)) L') (hfit : off + vs.length ≤ cs.length)
    (h1 : ∀ v ∈ vs, v.oneCell' = true) (P : Program) : ∃ w', (storeCells ⟨b, off, none⟩ vs 0).run P w = .ok () w' ∧ Inv w0 mods L' w' := by
  have hb := h.has _ hr.mem
  have hst := run_storeCells_at P b off e vs 0 cs.toArray w hb (by simpa using hfit) h1
  refine ⟨_, hst, ?_⟩
  simp only [Nat.add_zero]
  refine h.turn hr ?_ ?_ (fun j hj => ?_) rfl rfl rfl
  · have := setRow_heap w b cs.toArray (splice cs off vs).toArray e (0, 0) hb
    simpa [splice] using this
  · simp [World.setRow]
  · simp [World.setRow, Array.getElem?_modify, Ne.symm hj]

theorem gs_store {ops : List Oper} {Q : Exit → Act → World → Prop} {K : Act → World → Prop} {L' : List Ent} {b off m : Nat} {cs cs' vs : List Value} {e : TypeId} {v : Value} (hk : (P.info? t).map (·.size) = some m) (hx : Env.ev E x = some (.pointer (some ⟨b, off, none⟩))) (hy : Env.ev E y = some v) (hv : v.cells = vs.toArray) (hl : vs.length = m)
    (hw : Env.wants E ops g = some true) (h1 : vs.all Value.oneCell' = true) (hr : Repl L b (.cells cs.toArray e (0, 0)) (.cells cs'.toArray e (0, 0)) L') (hfit : off + vs.length ≤ cs.length) (hs : splice cs off vs = cs')
    (h : GX n w0 mods K E L') : GX n w0 mods (stepOp P ops Q (⟨none, .store t x y, T, pos, after, g⟩) K) E L := by
  intro a w hf hi
  subst hs; subst hl
  obtain ⟨w', hst, hi'⟩ := Inv.store hi hr hfit (fun u hu => List.all_eq_true.1 h1 u hu) P
  unfold stepOp
  rw [if_pos (hf.wants hw)]
  refine .inl ?_
  unfold Oper.wp
  rw [Option.map_eq_some_iff] at hk
  obtain ⟨i, hi2, hs2⟩ := hk
  have hrun : (execOp a.eval ⟨none, .store t x y, T, pos, after, g⟩).run P w = .ok .skip w' := by
    simp [execOp, hf.eval hx, hf.eval hy, Instr.storeAt, Instr.sureAddr, storeVar, sizeOf, typeInfo, hi2, hs2, hv, hst]
  rw [hrun]
  exact h _ _ hf hi'

/-! ### calls -/
inductive EvAll (E : Env) : List Operand → List Value → Prop
  | nil : EvAll E [] []
  | cons {x : Operand} {v : Value} {xs : List Operand} {vs : List Value} : Env.ev E x = some v → EvAll E xs vs → EvAll E (x :: xs) (v :: vs)
theorem EvAll.map {xs : List Operand} {vs : List Value} (h : EvAll E xs vs) {a : Act} (hf : Fits n E a) : xs.map a.eval = vs := by
  induction h with
  | nil => rfl
  | cons h _ ih => simp [hf.eval h, ih]

/-- A function with a body, that a call enters. -/
def Callable (P : Program) (f : FuncId) : Prop := ∃ fn, P.funcs[f]? = some fn ∧ (fn.name == "runtime.NumGoroutine") = false ∧ fn.body.isNone = false

theorem Callable.run {P : Program} {f : FuncId} (hc : Callable P f) (args : Array Value) (w : World) : (callFunc f args).run P w = .ok (.enter f args) w := by
  obtain ⟨fn, h1, h2, h3⟩ := hc
  unfold callFunc
  simp only [Sem.run_bind, run_program, Result.andThen_ok, h1, h2, h3, Bool.false_eq_true, if_false, Sem.run_pure]

def Enters (P : Program) (n : Nat) (w0 : World) (mods : List Nat) (E : Env) (L : List Ent) (o : Oper) (f : FuncId) (args : Array Value) : Prop :=
  ∀ a w, Fits n E a → Inv w0 mods L w → (execOp a.eval o).run P w = .ok (.enter f args) w

theorem enters {f : FuncId} {xs : List Operand} {vs : List Value} {ts : Array TypeId} (hc : Callable P f) (hx : EvAll E xs vs) : Enters P n w0 mods E L ⟨dst, .call ⟨.value (.func f), xs.toArray, ts⟩, T, pos, after, g⟩ f vs.toArray := fun a w hf _ => by
  have : a.eval (.func f) = .func (.func f) #[] #[] := rfl
  simp [execOp, resolve, this, Deferred.ofValue, invoke, hc.run, hx.map hf]
theorem enters_dyn {f : FuncId} {xs : List Operand} {vs fs cs : List Value} {ts : Array TypeId} (hc : Callable P f) (hy : Env.ev E y = some (.func (.func f) fs.toArray cs.toArray)) (hx : EvAll E xs vs) :
    Enters P n w0 mods E L ⟨dst, .call ⟨.value y, xs.toArray, ts⟩, T, pos, after, g⟩ f (fs ++ vs ++ cs).toArray := fun a w hf _ => by
  simp [execOp, resolve, hf.eval hy, Deferred.ofValue, invoke, hc.run, hx.map hf]

theorem Inv.comp {w w' : World} {Lf R L' : List Ent} (h : Inv w0 mods L w) (hp : List.Perm L (Lf ++ R)) (h' : Inv w (Lf.map Ent.b) L' w') : Inv w0 mods (L' ++ R) w' := by
  have hn : ((Lf ++ R).map Ent.b).Nodup := ((hp.map _).nodup_iff).1 h.nodup
  rw [List.map_append, List.nodup_append] at hn
  obtain ⟨hn1, hn2, hn3⟩ := hn
  have inL : ∀ e, e ∈ Lf → e ∈ L := fun e he => hp.mem_iff.2 (List.mem_append_left _ he)
  have inR : ∀ e, e ∈ R → e ∈ L := fun e he => hp.mem_iff.2 (List.mem_append_right _ he)
  refine ⟨Nat.le_trans h.size h'.size, h'.os.trans h.os, h'.tape.trans h.tape, h'.output.trans h.output, fun b hb hm => ?_, fun e he => ?_, fun e he => ?_, ?_⟩
  · rw [h'.frame b (Nat.lt_of_lt_of_le hb h.size) (fun hbm => ?_)]
    · exact h.frame b hb hm
    · obtain ⟨e, he, rfl⟩ := List.mem_map.1 hbm
      rcases h.may e (inL e he) with hh | hh
      · exact hm hh
      · omega
  · rcases List.mem_append.1 he with he | he
    · exact h'.has e he
    · rw [h'.frame e.b (h.lt (inR e he)) (fun hbm => ?_)]
      · exact h.has e (inR e he)
      · exact hn3 _ hbm _ (List.mem_map.2 ⟨e, he, rfl⟩) rfl
  · rcases List.mem_append.1 he with he | he
    · rcases h'.may e he with hh | hh
      · obtain ⟨e', he', hb⟩ := List.mem_map.1 hh
        rw [← hb]
        exact h.may e' (inL e' he')
      · exact .inr (Nat.le_trans h.size hh)
    · exact h.may e (inR e he)
  · rw [List.map_append, List.nodup_append]
    refine ⟨h'.nodup, hn2, fun b hb c hc hbc => ?_⟩
    subst hbc
    obtain ⟨e, he, hb1⟩ := List.mem_map.1 hb
    obtain ⟨e', he', hb2⟩ := List.mem_map.1 hc
    rcases h'.may e he with hh | hh
    · exact hn3 _ (hb1 ▸ hh) _ hc rfl
    · have := h.lt (inR e' he')
      omega

theorem gs_call {ops : List Oper} {Q : Exit → Act → World → Prop} {K : Act → World → Prop} {o : Oper} {d : Nat} {f : FuncId} {args : Array Value} {Pre : World → Prop} {Lf R : List Ent} {Post : Value → List Ent → Prop} (he : Enters P n w0 mods E L o f args) (hs : Spec P f args Pre Lf Post)
    (hw : Env.wants E ops o.guard = some true) (hd : o.dst = some d) (hn : Nat.ble (d + 1) n = true) (hp : List.Perm L (Lf ++ R)) (hpre : ∀ w, Inv w0 mods L w → Pre w)
    (h : ∀ v L', Post v L' → GX n w0 mods K ((d, v) :: E) (L' ++ R)) : GX n w0 mods (stepOp P ops Q o K) E L := by
  intro a w hf hi
  unfold stepOp
  rw [if_pos (hf.wants hw)]
  refine .inl ?_
  unfold Oper.wp
  rw [he a w hf hi]
  show Calls P f args w _
  have hn2 : ((Lf ++ R).map Ent.b).Nodup := ((hp.map _).nodup_iff).1 hi.nodup
  rw [List.map_append, List.nodup_append] at hn2
  refine (hs w (fun e he => hi.has e (hp.mem_iff.2 (List.mem_append_left _ he))) hn2.1 (hpre w hi)).mono ?_
  rintro e w' ⟨v, L', rfl, hpost, hi'⟩
  show K (a.put o.dst v) w'
  rw [hd]
  exact h v L' hpost _ _ (hf.put (Nat.le_of_ble_eq_true hn)) (hi.comp hp hi')

/-- A contract that tells one value, and of no memory. -/
def Pure (P : Program) (f : FuncId) (args : Array Value) (Pre : World → Prop) (v : Value) : Prop := Spec P f args Pre [] fun r L' => r = v ∧ L' = []
theorem gs_pure {ops : List Oper} {Q : Exit → Act → World → Prop} {K : Act → World → Prop} {o : Oper} {d : Nat} {f : FuncId} {args : Array Value} {Pre : World → Prop} {v : Value} (he : Enters P n w0 mods E L o f args) (hs : Pure P f args Pre v)
    (hw : Env.wants E ops o.guard = some true) (hd : o.dst = some d) (hn : Nat.ble (d + 1) n = true) (hpre : ∀ w, Inv w0 mods L w → Pre w)
    (h : GX n w0 mods K ((d, v) :: E) L) : GX n w0 mods (stepOp P ops Q o K) E L :=
  gs_call he hs hw hd hn (List.Perm.refl L) hpre (fun r L' ⟨h1, h2⟩ => by subst h1; subst h2; exact h)
theorem gq_pure {ops tail rest : List Oper} {o : Oper} {d : Nat} {f : FuncId} {args : Array Value} {Pre : World → Prop} {v : Value} (he : Enters P n w0 mods E L o f args) (hs : Pure P f args Pre v)
    (hw : Env.wants E ops o.guard = some true) (hd : o.dst = some d) (hn : Nat.ble (d + 1) n = true) (hpre : ∀ w, Inv w0 mods L w → Pre w)
    (h : GQ P n w0 mods ops tail rest k ((d, v) :: E) L) : GQ P n w0 mods ops tail (o :: rest) k E L := by
  intro a hf
  unfold wpQuiet
  rw [if_pos (hf.wants hw)]
  refine ⟨v, fun w hi => ?_, ?_⟩
  · unfold Oper.quietAt
    rw [he a w hf hi]
    refine ⟨rfl, (hs w (fun e he => by cases he) (by simp) (hpre w hi)).mono ?_⟩
    rintro e w' ⟨r, L', rfl, ⟨rfl, rfl⟩, hi'⟩
    refine ⟨rfl, ?_⟩
    have := hi.comp (Lf := []) (R := L) (List.Perm.refl L) hi'
    simpa using this
  · rw [hd]; exact h _ (hf.put (Nat.le_of_ble_eq_true hn))

theorem Repl.perm {L L' : List Ent} {b : Nat} {o o' : Obj} (h : Repl L b o o' L') : ∃ R, List.Perm L (⟨b, o⟩ :: R) ∧ List.Perm L' (⟨b, o'⟩ :: R) := by
  induction h with
  | @head b o o' R => exact ⟨R, .refl _, .refl _⟩
  | @tail e b o o' R R' _ ih =>
    obtain ⟨S, h1, h2⟩ := ih
    exact ⟨e :: S, (h1.cons e).trans (.swap _ _ _), (h2.cons e).trans (.swap _ _ _)⟩

/-- A contract that turns one block. -/
def Mods (P : Program) (f : FuncId) (args : Array Value) (Pre : World → Prop) (b : Nat) (o : Obj) (v : Value) (o' : Obj) : Prop := Spec P f args Pre [⟨b, o⟩] fun r L' => r = v ∧ L' = [⟨b, o'⟩]
theorem gs_mods {ops : List Oper} {Q : Exit → Act → World → Prop} {K : Act → World → Prop} {o : Oper} {d : Nat} {f : FuncId} {args : Array Value} {Pre : World → Prop} {v : Value} {b : Nat} {ob ob' : Obj} {L' : List Ent} (he : Enters P n w0 mods E L o f args) (hs : Mods P f args Pre b ob v ob')
    (hw : Env.wants E ops o.guard = some true) (hd : o.dst = some d) (hn : Nat.ble (d + 1) n = true) (hr : Repl L b ob ob' L') (hpre : ∀ w, Inv w0 mods L w → Pre w)
    (h : GX n w0 mods K ((d, v) :: E) L') : GX n w0 mods (stepOp P ops Q o K) E L := by
  obtain ⟨R, h1, h2⟩ := hr.perm
  refine gs_call he hs hw hd hn (Lf := [⟨b, ob⟩]) (R := R) h1 hpre (fun r M ⟨e1, e2⟩ => ?_)
  subst e1; subst e2
  exact gx_perm h2.symm h
end
end Go.Eng
