/-
  Engine, part Xa: structs opened; slices of structs; bounds on what came in.
-/
import Derived.Test.YtddckbhlfeegoaaEngX
import Derived.Test.YtddckbhlfeegoaaEngTe
namespace Go.Eng
open Go Go.ChangeMaps Go.ChangeShapes Go.WideShapes Go.WideElems
set_option linter.unusedVariables false
set_option linter.unusedSimpArgs false
def fieldAt (P : Program) (t : TypeId) (i : Nat) : Option (TypeId × Nat) := match P.underlying t with | some (.struct fs) => fs[i]?.map fun f => (f.type, f.offset) | _ => none
section
variable {P : Program} {H : Type} {enc : TypeId × Value → H} {r : Reach} {b0 : Nat} {t e : TypeId} {v : Value} {d : DataW H} {ps : List MemPlace} {base : Nat} {sp : Nat → Bool} {held : Bool} {w : World} {fuel : Nat} {cs : List Value} {x : DataW H × List MemPlace}
def Light (P : Program) (t : TypeId) (d : DataW H) : Prop := ∀ m ∈ d.weights P t, m ≤ reachBytes
theorem weights_each : ∀ {ts : List TypeId} {l : List (DataW H)} {i : Nat} {ty : TypeId} {d : DataW H} {m : Nat}, ts[i]? = some ty → l[i]? = some d → m ∈ d.weights P ty → m ∈ DataW.weightsEach P ts l
  | t :: ts, y :: l, 0, ty, d, m, h1, h2, hm => by
    unfold DataW.weightsEach
    simp at h1 h2; subst h1; subst h2
    exact List.mem_append_left _ hm
  | t :: ts, y :: l, i + 1, ty, d, m, h1, h2, hm => by
    unfold DataW.weightsEach
    exact List.mem_append_right _ (weights_each (i := i) (by simpa using h1) (by simpa using h2) hm)
theorem trod_at {i off : Nat} {ty : TypeId} (hf : fieldAt P t i = some (ty, off)) (h : DataW.trod enc P w base sp held fuel t cs = some x) :
    cs.length = P.cellsOf t ∧ ∃ n y, DataW.trod enc P w base sp held n ty ((cs.drop off).take (P.cellsOf ty)) = some y ∧ (Light P t x.1 → Light P ty y.1) := by
  unfold fieldAt at hf
  split at hf
  · rename_i fs hu
    obtain ⟨xs, n, rfl, rfl, hlen, hxl, hel⟩ := DataW.trod_struct hu h
    rw [Option.map_eq_some_iff] at hf
    obtain ⟨f, hf, hfe⟩ := hf
    simp only [Prod.mk.injEq] at hfe
    obtain ⟨rfl, rfl⟩ := hfe
    have h1 := hel i f hf
    have hil : i < xs.length := by rw [hxl]; exact (Array.getElem?_eq_some_iff.1 hf).1
    rw [List.getElem?_eq_getElem hil] at h1
    refine ⟨hlen, n, xs[i], h1, fun hl m hm => hl m ?_⟩
    unfold DataW.weights
    simp only [hu]
    exact weights_each (i := i) (ty := f.type) (d := xs[i].1) (by rw [List.getElem?_map, Array.getElem?_toList, hf]; rfl) (by rw [List.getElem?_map, List.getElem?_eq_getElem hil]; rfl) hm
  · cases hf
theorem trod_i64 (ht : P.underlying t = some (.int .i64)) (h : DataW.trod enc P w base sp held fuel t cs = some x) : ∃ n : Int, cs = [I64 n] ∧ -9223372036854775808 ≤ n ∧ n ≤ 9223372036854775807 := by
  obtain ⟨n, rfl, _, hw⟩ := DataW.trod_int ht h
  simp only [Lit.wf, Bool.and_eq_true, decide_eq_true_eq] at hw
  exact ⟨n, rfl, hw.1, hw.2⟩
theorem trod_u16 (ht : P.underlying t = some (.int .u16)) (h : DataW.trod enc P w base sp held fuel t cs = some x) : ∃ n : Nat, cs = [.int .u16 (n : Int)] ∧ n ≤ 65535 := by
  obtain ⟨n, rfl, _, hw⟩ := DataW.trod_int ht h
  simp only [Lit.wf, Bool.and_eq_true, decide_eq_true_eq] at hw
  have h1 : (0 : Int) ≤ n := hw.1
  have h2 : n ≤ 65535 := hw.2
  exact ⟨n.toNat, by rw [Int.toNat_of_nonneg h1], by omega⟩
/-- A slice whose elements are known by what their cells hold, and how many there are. -/
theorem trod_sliceQ {α : Type} {f : α → List Value} {Q : α → Prop} {m : Nat} (ht : P.underlying t = some (.slice e)) (hc : P.cellsOf e = m) (hb : 0 < P.bytesOf e) (hm : ∀ a, (f a).length = m)
    (hone : ∀ (n : Nat) (cs : List Value) (x : DataW H × List MemPlace), DataW.trod enc P w base sp held n e cs = some x → Light P e x.1 → ∃ a : α, cs = f a ∧ Q a)
    (h : DataW.trod enc P w base sp held fuel t cs = some x) (hl : Light P t x.1) :
    ∃ (ba : Option Addr) (n cap : Nat) (l : List α), cs = [.slice ba n cap] ∧ l.length = n ∧ n ≤ cap ∧ n ≤ 140737488351232 ∧ (∀ a ∈ l, Q a) ∧ Row w [] ba (l.flatMap f) := by
  rcases DataW.trod_slice ht h with ⟨rfl, rfl⟩ | ⟨a, len, cap, elems, rest, n, rfl, rfl, rfl, _, hle, hmx, hlen, hel, _⟩
  · exact ⟨none, 0, 0, [], rfl, rfl, Nat.le_refl _, by omega, (fun a h => by cases h), fun i v hv => by simp at hv⟩
  · have hw := fun m hm => hl m hm
    have hsz : len ≤ 140737488351232 := by
      have := hl ((elems.length + rest.length) * P.bytesOf e) (by unfold DataW.weights; simp [ht])
      unfold reachBytes at this
      have h2 : (elems.length + rest.length) * 1 ≤ (elems.length + rest.length) * P.bytesOf e := Nat.mul_le_mul_left _ hb
      omega
    have each : ∀ i : Fin len, ∃ p : α, w.cells? base (a.add (i.1 * m)) m = some (f p) ∧ Q p := fun i => by
      have := hel i.1 i.2
      rw [hc, List.getElem?_eq_getElem (by omega)] at this
      simp only [Option.bind_eq_some_iff] at this
      obtain ⟨cs, h1, h2⟩ := this
      obtain ⟨p, rfl, hp⟩ := hone _ _ _ h2 (fun m hm => hl m (by
        unfold DataW.weights
        simp only [ht]
        refine List.mem_cons_of_mem _ (List.mem_append_left _ (weights_all (d := elems[i.1].1) ?_ hm))
        exact List.mem_map.2 ⟨_, List.getElem_mem _, rfl⟩))
      exact ⟨p, h1, hp⟩
    refine ⟨some a, len, cap, List.ofFn fun i => (each i).choose, rfl, by simp, hle, hsz, fun p hp => ?_, ?_⟩
    · obtain ⟨i, rfl⟩ := List.mem_ofFn.1 hp
      exact (each i).choose_spec.2
    · intro q v hv
      obtain ⟨i, j, x, rfl, hj, hx, hv'⟩ := flat_get hm _ _ _ hv
      refine ⟨a, rfl, by simp, ?_⟩
      simp only [List.getElem?_ofFn] at hx
      split at hx
      · rename_i hi
        cases hx
        have h3 := (World.cells?_some (each ⟨i, hi⟩).choose_spec.1).2.2 j hj
        rw [add_add] at h3
        rw [h3]
        exact hv'
      · cases hx
theorem open_sliceQ {α : Type} {f : α → List Value} {Q : α → Prop} {m : Nat} (ht : P.underlying t = some (.slice e)) (hc : P.cellsOf e = m) (hb : 0 < P.bytesOf e) (hm : ∀ a, (f a).length = m)
    (hone : ∀ (n : Nat) (cs : List Value) (x : DataW H × List MemPlace), DataW.trod enc P w base sp held n e cs = some x → Light P e x.1 → ∃ a : α, cs = f a ∧ Q a)
    (hval : Value.okWide P w r b0 t v) (hd : DataW.Trod enc P w base sp held t v d ps) (hl : Light P t d) :
    ∃ (ba : Option Addr) (n cap : Nat) (l : List α), v = .slice ba n cap ∧ l.length = n ∧ n ≤ cap ∧ n ≤ 140737488351232 ∧ (∀ a ∈ l, Q a) ∧ Row w [] ba (l.flatMap f) := by
  obtain ⟨ba, len, cap, rfl⟩ := okWide_slice ht hval
  obtain ⟨fuel, hf⟩ := hd
  obtain ⟨ba', n, c, l, h1, h2⟩ := trod_sliceQ ht hc hb hm hone hf hl
  simp only [Value.cells, List.cons.injEq, and_true] at h1
  exact ⟨ba', n, c, l, h1, h2⟩
theorem open_intsW (ht : P.underlying t = some (.slice e)) (he : P.underlying e = some (.int .i64)) (hc : P.cellsOf e = 1) (hb : P.bytesOf e = 8) (hval : Value.okWide P w r b0 t v) (hd : DataW.Trod enc P w base sp held t v d ps) (hl : Light P t d) :
    ∃ (ba : Option Addr) (n cap : Nat) (l : List Int), v = .slice ba n cap ∧ l.length = n ∧ n ≤ cap ∧ n ≤ 140737488351232 ∧ (∀ a ∈ l, -9223372036854775808 ≤ a ∧ a ≤ 9223372036854775807) ∧ Row w [] ba (l.map I64) := by
  obtain ⟨ba, n, c, l, h1, h2, h3, h4, h5, h6⟩ := open_sliceQ (f := fun a : Int => [I64 a]) ht hc (by omega) (fun _ => rfl) (fun n cs x h _ => trod_i64 he h) hval hd hl
  exact ⟨ba, n, c, l, h1, h2, h3, h4, h5, by rw [map_flat]; exact h6⟩
theorem open_u16W (ht : P.underlying t = some (.slice e)) (he : P.underlying e = some (.int .u16)) (hc : P.cellsOf e = 1) (hb : 0 < P.bytesOf e) (hval : Value.okWide P w r b0 t v) (hd : DataW.Trod enc P w base sp held t v d ps) (hl : Light P t d) :
    ∃ (ba : Option Addr) (n cap : Nat) (l : List Nat), v = .slice ba n cap ∧ l.length = n ∧ n ≤ cap ∧ n ≤ 140737488351232 ∧ (∀ a ∈ l, a ≤ 65535) ∧ Row w [] ba (l.map fun a : Nat => Value.int .u16 (a : Int)) := by
  obtain ⟨ba, n, c, l, h1, h2, h3, h4, h5, h6⟩ := open_sliceQ (f := fun a : Nat => [Value.int .u16 (a : Int)]) ht hc hb (fun _ => rfl) (fun n cs x h _ => trod_u16 he h) hval hd hl
  exact ⟨ba, n, c, l, h1, h2, h3, h4, h5, by rw [map_flat]; exact h6⟩
theorem open_bytesW (ht : P.underlying t = some (.slice e)) (he : P.underlying e = some (.int .u8)) (hc : P.cellsOf e = 1) (hb : 0 < P.bytesOf e) (hval : Value.okWide P w r b0 t v) (hd : DataW.Trod enc P w base sp held t v d ps) (hl : Light P t d) :
    ∃ (ba : Option Addr) (n cap : Nat) (l : List UInt8), v = .slice ba n cap ∧ l.length = n ∧ n ≤ cap ∧ n ≤ 140737488351232 ∧ Row w [] ba (l.map U8) := by
  obtain ⟨ba, n, c, l, h1, h2, h3, h4, h5, h6⟩ := open_sliceQ (f := fun a : UInt8 => [U8 a]) (Q := fun _ => True) ht hc hb (fun _ => rfl) (fun n cs x h _ => (trod_u8 he h).imp fun a ha => ⟨ha, trivial⟩) hval hd hl
  exact ⟨ba, n, c, l, h1, h2, h3, h4, by rw [map_flat]; exact h6⟩
theorem agg_of_list {v : Value} {k : Nat} (hv : ∃ cs, v = .agg cs) {l : List Value} (h : v.cells.toList = l) : v = .agg l.toArray := by
  obtain ⟨cs, rfl⟩ := hv
  simp [Value.cells] at h
  subst h; simp
theorem okWide_struct {fs : Array Field} (ht : P.underlying t = some (.struct fs)) (hval : Value.okWide P w r b0 t v) : ∃ cs, v = .agg cs := by
  simp only [Value.okWide, ht] at hval
  obtain ⟨cs, h, _⟩ := hval
  exact ⟨cs, h⟩
theorem fieldAt_struct {i : Nat} {p : TypeId × Nat} (h : fieldAt P t i = some p) : ∃ fs, P.underlying t = some (.struct fs) := by
  unfold fieldAt at h
  split at h
  · exact ⟨_, ‹_›⟩
  · cases h
/-- A number, a number, a text, a yes or no. -/
theorem open_claim {t0 t1 t2 t3 : TypeId} (f0 : fieldAt P t 0 = some (t0, 0)) (f1 : fieldAt P t 1 = some (t1, 1)) (f2 : fieldAt P t 2 = some (t2, 2)) (f3 : fieldAt P t 3 = some (t3, 3)) (hc : P.cellsOf t = 4)
    (c0 : P.cellsOf t0 = 1) (c1 : P.cellsOf t1 = 1) (c2 : P.cellsOf t2 = 1) (c3 : P.cellsOf t3 = 1) (u0 : P.underlying t0 = some (.int .i64)) (u1 : P.underlying t1 = some (.int .i64)) (u2 : P.underlying t2 = some .string) (u3 : P.underlying t3 = some .bool)
    (hval : Value.okWide P w r b0 t v) (hd : DataW.Trod enc P w base sp held t v d ps) :
    ∃ (a b : Int) (s : ByteArray) (q : Bool), v = .agg ([I64 a, I64 b, .string s, .bool q] : List Value).toArray ∧ (-9223372036854775808 ≤ a ∧ a ≤ 9223372036854775807) ∧ (-9223372036854775808 ≤ b ∧ b ≤ 9223372036854775807) := by
  obtain ⟨fs, hu⟩ := fieldAt_struct f0
  have hag := okWide_struct hu hval
  obtain ⟨fuel, hf⟩ := hd
  obtain ⟨hl, _, _, g0, _⟩ := trod_at f0 hf
  obtain ⟨_, _, _, g1, _⟩ := trod_at f1 hf
  obtain ⟨_, _, _, g2, _⟩ := trod_at f2 hf
  obtain ⟨_, _, _, g3, _⟩ := trod_at f3 hf
  obtain ⟨a, e0, h0⟩ := trod_i64 u0 g0
  obtain ⟨b, e1, h1⟩ := trod_i64 u1 g1
  obtain ⟨s, e2, _⟩ := DataW.trod_string u2 g2
  obtain ⟨q, e3, _⟩ := DataW.trod_bool u3 g3
  rw [hc] at hl
  refine ⟨a, b, s, q, agg_of_list (k := 0) hag ?_, h0, h1⟩
  rw [c0] at e0; rw [c1] at e1; rw [c2] at e2; rw [c3] at e3
  generalize v.cells.toList = l at *
  match l, hl with
  | [x0, x1, x2, x3], _ => simp at e0 e1 e2 e3; rw [e0, e1, e2, e3]
theorem list12 {l : List Value} (h : l.length = 12) : l = (l.drop 0).take 1 ++ ((l.drop 1).take 1 ++ ((l.drop 2).take 8 ++ ((l.drop 10).take 1 ++ (l.drop 11).take 1))) := by
  match l, h with
  | [a0, a1, a2, a3, a4, a5, a6, a7, a8, a9, a10, a11], _ => rfl
theorem trod_deed {t0 t1 t2 t3 t4 : TypeId} (f0 : fieldAt P t 0 = some (t0, 0)) (f1 : fieldAt P t 1 = some (t1, 1)) (f2 : fieldAt P t 2 = some (t2, 2)) (f3 : fieldAt P t 3 = some (t3, 10)) (f4 : fieldAt P t 4 = some (t4, 11)) (hc : P.cellsOf t = 12)
    (c0 : P.cellsOf t0 = 1) (c1 : P.cellsOf t1 = 1) (c2 : P.cellsOf t2 = 8) (c3 : P.cellsOf t3 = 1) (c4 : P.cellsOf t4 = 1) (u0 : P.underlying t0 = some .bool) (u1 : P.underlying t1 = some .bool) (u2 : DigT P t2) (u3 : P.underlying t3 = some (.int .i64)) (u4 : P.underlying t4 = some .string)
    (hf : DataW.trod enc P w base sp held fuel t cs = some x) : ∃ a : De, cs = a.L ∧ True := by
  obtain ⟨hl, _, _, g0, _⟩ := trod_at f0 hf
  obtain ⟨_, _, _, g1, _⟩ := trod_at f1 hf
  obtain ⟨_, _, _, g2, _⟩ := trod_at f2 hf
  obtain ⟨_, _, _, g3, _⟩ := trod_at f3 hf
  obtain ⟨_, _, _, g4, _⟩ := trod_at f4 hf
  obtain ⟨a, e0, _⟩ := DataW.trod_bool u0 g0
  obtain ⟨b, e1, _⟩ := DataW.trod_bool u1 g1
  obtain ⟨d, e2⟩ := trod_dig u2 c2 g2
  obtain ⟨k, e3, _, _⟩ := trod_i64 u3 g3
  obtain ⟨s, e4, _⟩ := DataW.trod_string u4 g4
  rw [hc] at hl
  rw [c0] at e0; rw [c1] at e1; rw [c2] at e2; rw [c3] at e3; rw [c4] at e4
  refine ⟨⟨a, b, d, k, s⟩, ?_, trivial⟩
  rw [list12 hl, e0, e1, e2, e3, e4]
  rfl
theorem list11 {l : List Value} (h : l.length = 11) : l = (l.drop 0).take 8 ++ ((l.drop 8).take 1 ++ ((l.drop 9).take 1 ++ (l.drop 10).take 1)) := by
  match l, h with
  | [a0, a1, a2, a3, a4, a5, a6, a7, a8, a9, a10], _ => rfl
theorem list15 {l : List Value} (h : l.length = 15) : l = (l.drop 0).take 1 ++ ((l.drop 1).take 1 ++ ((l.drop 2).take 1 ++ ((l.drop 3).take 1 ++ (l.drop 4).take 11))) := by
  match l, h with
  | [a0, a1, a2, a3, a4, a5, a6, a7, a8, a9, a10, a11, a12, a13, a14], _ => rfl
structure RaF (P : Program) (t : TypeId) (t0 t1 t2 t3 e : TypeId) : Prop where
  f0 : fieldAt P t 0 = some (t0, 0)
  f1 : fieldAt P t 1 = some (t1, 8)
  f2 : fieldAt P t 2 = some (t2, 9)
  f3 : fieldAt P t 3 = some (t3, 10)
  hc : P.cellsOf t = 11
  c0 : P.cellsOf t0 = 8
  c1 : P.cellsOf t1 = 1
  c2 : P.cellsOf t2 = 1
  c3 : P.cellsOf t3 = 1
  u0 : DigT P t0
  u1 : P.underlying t1 = some (.int .i64)
  u2 : P.underlying t2 = some (.slice e)
  u3 : P.underlying t3 = some (.int .i64)
  ue : P.underlying e = some (.int .i64)
  ce : P.cellsOf e = 1
  be : P.bytesOf e = 8
theorem trod_raise {t0 t1 t2 t3 : TypeId} (k : RaF P t t0 t1 t2 t3 e) (hf : DataW.trod enc P w base sp held fuel t cs = some x) (hl : Light P t x.1) :
    ∃ (tb : BitVec 64) (num un : Int) (ra : Option Addr) (n c : Nat) (ad : List Int), cs = raL tb num (.slice ra n c) un ∧ ad.length = n ∧ n ≤ c ∧ n ≤ 140737488351232 ∧ Row w [] ra (ad.map I64) ∧ ((-9223372036854775808 ≤ num ∧ num ≤ 9223372036854775807) ∧ (-9223372036854775808 ≤ un ∧ un ≤ 9223372036854775807)) ∧ ∀ a ∈ ad, -9223372036854775808 ≤ a ∧ a ≤ 9223372036854775807 := by
  obtain ⟨hlen, _, _, g0, _⟩ := trod_at k.f0 hf
  obtain ⟨_, _, _, g1, _⟩ := trod_at k.f1 hf
  obtain ⟨_, _, _, g2, l2⟩ := trod_at k.f2 hf
  obtain ⟨_, _, _, g3, _⟩ := trod_at k.f3 hf
  obtain ⟨d, e0⟩ := trod_dig k.u0 k.c0 g0
  obtain ⟨num, e1, b1, b2⟩ := trod_i64 k.u1 g1
  obtain ⟨ra, n, c, ad, e2, h1, h2, h3, h4, h5⟩ := trod_sliceQ (f := fun a : Int => [I64 a]) k.u2 k.ce (by rw [k.be]; decide) (fun _ => rfl) (fun n cs x h _ => trod_i64 k.ue h) g2 (l2 hl)
  obtain ⟨un, e3, b3, b4⟩ := trod_i64 k.u3 g3
  rw [k.hc] at hlen
  rw [k.c0] at e0; rw [k.c1] at e1; rw [k.c2] at e2; rw [k.c3] at e3
  refine ⟨d, num, un, ra, n, c, ad, ?_, h1, h2, h3, by rw [map_flat]; exact h5, ⟨⟨b1, b2⟩, b3, b4⟩, h4⟩
  rw [list11 hlen, e0, e1, e2, e3]
  rfl
@[reducible] def actL (k h s m : Int) (t : BitVec 64) (num un : Int) (ra : Option Addr) (n c : Nat) : List Value := I64 k :: I64 h :: I64 s :: I64 m :: raL t num (.slice ra n c) un
theorem trod_act {u : TypeId} {ta tb' tc td t0 t1 t2 t3 : TypeId} (k : RaF P u t0 t1 t2 t3 e) (f0 : fieldAt P t 0 = some (ta, 0)) (f1 : fieldAt P t 1 = some (tb', 1)) (f2 : fieldAt P t 2 = some (tc, 2)) (f3 : fieldAt P t 3 = some (td, 3)) (f4 : fieldAt P t 4 = some (u, 4)) (hc : P.cellsOf t = 15)
    (c0 : P.cellsOf ta = 1) (c1 : P.cellsOf tb' = 1) (c2 : P.cellsOf tc = 1) (c3 : P.cellsOf td = 1) (u0 : P.underlying ta = some (.int .i64)) (u1 : P.underlying tb' = some (.int .i64)) (u2 : P.underlying tc = some (.int .i64)) (u3 : P.underlying td = some (.int .i64))
    (hf : DataW.trod enc P w base sp held fuel t cs = some x) (hl : Light P t x.1) :
    ∃ (k h s m : Int) (tb : BitVec 64) (num un : Int) (ra : Option Addr) (n c : Nat) (ad : List Int), cs = actL k h s m tb num un ra n c ∧ ad.length = n ∧ n ≤ c ∧ n ≤ 140737488351232 ∧ Row w [] ra (ad.map I64) ∧ ((-9223372036854775808 ≤ num ∧ num ≤ 9223372036854775807) ∧ (-9223372036854775808 ≤ un ∧ un ≤ 9223372036854775807)) ∧ ∀ a ∈ ad, -9223372036854775808 ≤ a ∧ a ≤ 9223372036854775807 := by
  obtain ⟨hlen, _, _, g0, _⟩ := trod_at f0 hf
  obtain ⟨_, _, _, g1, _⟩ := trod_at f1 hf
  obtain ⟨_, _, _, g2, _⟩ := trod_at f2 hf
  obtain ⟨_, _, _, g3, _⟩ := trod_at f3 hf
  obtain ⟨_, _, _, g4, l4⟩ := trod_at f4 hf
  obtain ⟨k1, e0, _⟩ := trod_i64 u0 g0
  obtain ⟨k2, e1, _⟩ := trod_i64 u1 g1
  obtain ⟨k3, e2, _⟩ := trod_i64 u2 g2
  obtain ⟨k4, e3, _⟩ := trod_i64 u3 g3
  obtain ⟨d, num, un, ra, n, c, ad, e4, h⟩ := trod_raise k g4 (l4 hl)
  rw [hc] at hlen
  rw [c0] at e0; rw [c1] at e1; rw [c2] at e2; rw [c3] at e3; rw [k.hc] at e4
  refine ⟨k1, k2, k3, k4, d, num, un, ra, n, c, ad, ?_, h⟩
  rw [list15 hlen, e0, e1, e2, e3, e4]
  rfl
theorem open_act {u : TypeId} {ta tb' tc td t0 t1 t2 t3 : TypeId} (k : RaF P u t0 t1 t2 t3 e) (f0 : fieldAt P t 0 = some (ta, 0)) (f1 : fieldAt P t 1 = some (tb', 1)) (f2 : fieldAt P t 2 = some (tc, 2)) (f3 : fieldAt P t 3 = some (td, 3)) (f4 : fieldAt P t 4 = some (u, 4)) (hc : P.cellsOf t = 15)
    (c0 : P.cellsOf ta = 1) (c1 : P.cellsOf tb' = 1) (c2 : P.cellsOf tc = 1) (c3 : P.cellsOf td = 1) (u0 : P.underlying ta = some (.int .i64)) (u1 : P.underlying tb' = some (.int .i64)) (u2 : P.underlying tc = some (.int .i64)) (u3 : P.underlying td = some (.int .i64))
    (hval : Value.okWide P w r b0 t v) (hd : DataW.Trod enc P w base sp held t v d ps) (hl : Light P t d) :
    ∃ (k h s m : Int) (tb : BitVec 64) (num un : Int) (ra : Option Addr) (n c : Nat) (ad : List Int), v = .agg (actL k h s m tb num un ra n c).toArray ∧ ad.length = n ∧ n ≤ c ∧ n ≤ 140737488351232 ∧ Row w [] ra (ad.map I64) := by
  obtain ⟨fs, hu⟩ := fieldAt_struct f0
  have hag := okWide_struct hu hval
  obtain ⟨fuel, hf⟩ := hd
  obtain ⟨k1, k2, k3, k4, tb, num, un, ra, n, c, ad, e1, h1, h2, h3, h4, _⟩ := trod_act k f0 f1 f2 f3 f4 hc c0 c1 c2 c3 u0 u1 u2 u3 hf hl
  exact ⟨k1, k2, k3, k4, tb, num, un, ra, n, c, ad, agg_of_list (k := 0) hag e1, h1, h2, h3, h4⟩
theorem open_raise {t0 t1 t2 t3 : TypeId} (k : RaF P t t0 t1 t2 t3 e) (hval : Value.okWide P w r b0 t v) (hd : DataW.Trod enc P w base sp held t v d ps) (hl : Light P t d) :
    ∃ (tb : BitVec 64) (num un : Int) (ra : Option Addr) (n c : Nat) (ad : List Int), v = .agg (raL tb num (.slice ra n c) un).toArray ∧ ad.length = n ∧ n ≤ c ∧ n ≤ 140737488351232 ∧ Row w [] ra (ad.map I64) ∧ ((-9223372036854775808 ≤ num ∧ num ≤ 9223372036854775807) ∧ (-9223372036854775808 ≤ un ∧ un ≤ 9223372036854775807)) ∧ ∀ a ∈ ad, -9223372036854775808 ≤ a ∧ a ≤ 9223372036854775807 := by
  obtain ⟨fs, hu⟩ := fieldAt_struct k.f0
  have hag := okWide_struct hu hval
  obtain ⟨fuel, hf⟩ := hd
  obtain ⟨tb, num, un, ra, n, c, ad, e1, h1⟩ := trod_raise k hf hl
  exact ⟨tb, num, un, ra, n, c, ad, agg_of_list (k := 0) hag e1, h1⟩
theorem trod_ac {u : TypeId} {ta tb' tc td t0 t1 t2 t3 : TypeId} (k : RaF P u t0 t1 t2 t3 e) (f0 : fieldAt P t 0 = some (ta, 0)) (f1 : fieldAt P t 1 = some (tb', 1)) (f2 : fieldAt P t 2 = some (tc, 2)) (f3 : fieldAt P t 3 = some (td, 3)) (f4 : fieldAt P t 4 = some (u, 4)) (hc : P.cellsOf t = 15)
    (c0 : P.cellsOf ta = 1) (c1 : P.cellsOf tb' = 1) (c2 : P.cellsOf tc = 1) (c3 : P.cellsOf td = 1) (u0 : P.underlying ta = some (.int .i64)) (u1 : P.underlying tb' = some (.int .i64)) (u2 : P.underlying tc = some (.int .i64)) (u3 : P.underlying td = some (.int .i64))
    (hf : DataW.trod enc P w base sp held fuel t cs = some x) (hl : Light P t x.1) :
    ∃ a : Ac, cs = a.L ∧ ((a.ad.length = a.n ∧ a.n ≤ a.c ∧ a.n ≤ 140737488351232) ∧ Row w [] a.ra (a.ad.map I64)) := by
  obtain ⟨k1, k2, k3, k4, tb, num, un, ra, n, c, ad, e1, h1, h2, h3, h4, _⟩ := trod_act k f0 f1 f2 f3 f4 hc c0 c1 c2 c3 u0 u1 u2 u3 hf hl
  exact ⟨⟨k1, k2, k3, k4, tb, num, un, ra, n, c, ad⟩, e1, ⟨h1, h2, h3⟩, h4⟩
end
end Go.Eng
