/- What a law's statement asks of its walk: arguments opened, the frame, the end. No condition. -/
import Derived.Test.YtddckbhlfeegoaaEngG
import Derived.WalkKit
import Derived.ProofKit
import Derived.OpenShut
import Derived.WideKeyArgs
import Derived.ChangeOld
namespace Go.Eng
open Go Go.ChangeShapes Go.WideShapes Go.WideElems
set_option linter.unusedVariables false
set_option linter.unusedSimpArgs false

section
variable {W W' : World}
theorem inv_same (h : Inv W [] [] W') {p : MemPlace} (hp : p.block < W.heap.size) : W.sameAt W' p := by
  cases p with
  | cell b off =>
    show W'.cell? _ = W.cell? _
    have := h.frame b hp (by simp)
    simp only [World.cell?, this]
  | map b => exact h.frame b hp (by simp)

theorem inv_kept (h : Inv W [] [] W') (may : MemPlace → Prop) : W.keptBut W' may := by
  refine ⟨h.os, h.output, fun i hi => ?_⟩
  rw [h.frame i hi (by simp)]
  generalize W.heap[i]? = o
  cases o with
  | none => rfl
  | some o =>
    cases o with
    | cells => exact ⟨rfl, rfl, rfl, fun _ _ => rfl⟩
    | map => exact .inr ⟨rfl, rfl⟩
    | _ => rfl

theorem inv_frozen (h : Inv W [] [] W') {a : Addr} (ha : a.block < W.heap.size) : W'.frozen? a = W.frozen? a := by
  unfold World.frozen?
  rw [h.frame a.block ha (by simp)]

variable {H : Type} {enc : TypeId × Value → H} {P : Program}

theorem trodAll_same (hl : laidOutB P = true) (hs : ∀ p : MemPlace, p.block < W.heap.size → W.sameAt W' p) {sp : Nat → Bool} : ∀ {ts : List TypeId} {vs : List Value} {ds : List (DataW H)} {ps : List MemPlace},
    (∀ t ∈ ts, P.readableRec t = true ∧ t < P.types.size) → DataW.TrodAll enc P W 0 (fun _ => true) true ts vs ds ps → (∀ p ∈ ps, p.block < W.heap.size ∧ sp p.block = true) → DataW.TrodAll enc P W' 0 sp true ts vs ds ps
  | [], _, _, _, _, h, _ => by
    obtain ⟨rfl, rfl, rfl⟩ := trodAll_nil h
    exact trodAll_mk0
  | t :: ts, _, _, _, ht, h, hp => by
    obtain ⟨v, vs, d, ds, p, q, rfl, rfl, rfl, h1, h2⟩ := trodAll_cons h
    have hp' : ∀ x ∈ p, x.block < W.heap.size ∧ sp x.block = true := fun x hx => hp x (List.mem_append_left _ hx)
    exact ⟨p, q, Trod_stays hl (ht t (by simp)).1 (ht t (by simp)).2 h1 (fun x hx => hs x (hp' x hx).1) (fun x hx => (hp' x hx).2),
      trodAll_same hl hs (fun u hu => ht u (by simp [hu])) h2 (fun x hx => hp x (List.mem_append_right _ hx)), rfl⟩

/-- What a law's walk has to show: it answers true, and no block that was there has changed. -/
theorem post_true {f : Func} {s : ChangeSpec} {args : Array Value} {ds gs : List (DataW H)} {before : List MemPlace} {tb : TypeId} (hl : laidOutB P = true)
    (hts : f.params.toList.all (fun t => P.readableRec t && decide (t < P.types.size)) = true) (hv : s.vars = []) (hr : f.resultTypes = #[tb]) (hb : P.underlying tb = some .bool)
    (hfn : s.fn H (ds ++ gs) = ⟨[.lit (.bool true)], ds, []⟩) (hW : DataW.Whole enc P f.params.toList s.vars false W args.toList ds gs before) (hi : Inv W [] [] W') :
    s.post enc P f false true false false W args (.bool true) W' := by
  have hW0 := hW
  have hlt := DataW.Whole.lt hW
  obtain ⟨p, q, hA, hV, rfl, hfz, hnd⟩ := hW
  rw [hv] at hV
  obtain ⟨rfl, rfl⟩ := trodVars_none hV
  simp only [List.all_eq_true, Bool.and_eq_true, decide_eq_true_eq] at hts
  have hsame : ∀ p : MemPlace, p.block < W.heap.size → W.sameAt W' p := fun p hp => inv_same hi hp
  have key : ∀ sp : Nat → Bool, (∀ x ∈ p, sp x.block = true) → DataW.TrodAll enc P W' 0 sp true f.params.toList args.toList (s.fn H (ds ++ [])).args p := fun sp hsp => by
    rw [hfn]
    exact trodAll_same hl hsame hts hA (fun x hx => ⟨hlt x (by simp [hx]), hsp x hx⟩)
  have hold : ∀ x ∈ p, (fun b => decide (b < W.heap.size)) x.block = true := fun x hx => by simpa using hlt x (by simp [hx])
  have hres : ∀ (b : Nat) (sp : Nat → Bool) (hd : Bool), DataW.TrodAll enc P W' b sp hd f.resultTypes.toList ((Value.bool true).resultList f.resultTypes.size) (s.fn H (ds ++ [])).results [] := fun b sp hd => by
    rw [hfn, hr]
    exact trodAll_cons_mk (Go.RowKit.shut_bool hb _) trodAll_mk0
  have hvars : ∀ sp : Nat → Bool, DataW.TrodVars enc P W' sp s.vars (s.fn H (ds ++ [])).vars [] := fun sp => by
    rw [hfn, hv]
    rfl
  refine ⟨ds, [], p ++ [], [], p, [], hW0, hres _ _ _, key _ hold, hvars _, inv_kept hi _, fun _ => ?_⟩
  refine ⟨Go.RowKit.ok_one hr rfl (Go.RowKit.okWide_bool_mk hb _), _, _, ([] ++ p) ++ [], ⟨[] ++ p, [], trodAll_append (key _ (fun _ _ => rfl)) (hres _ _ _), hvars _, rfl, ?_, ?_⟩, ?_⟩
  · intro b off hp
    have hp' : MemPlace.cell b off ∈ p ++ [] := by simpa using hp
    rw [inv_frozen hi (a := ⟨b, off, none⟩) (hlt _ hp')]
    exact hfz b off hp'
  · intro ha; cases ha
  · intro x hx _
    simpa using hx

/- ## arguments opened -/
theorem trod_u8 {e : TypeId} {fuel : Nat} {cs : List Value} {x : DataW H × List MemPlace} {base : Nat} {sp : Nat → Bool} {held : Bool} {w : World} (he : P.underlying e = some (.int .u8)) (h : DataW.trod enc P w base sp held fuel e cs = some x) : ∃ b : UInt8, cs = [U8 b] := by
  obtain ⟨n, rfl, _, hw⟩ := DataW.trod_int he h
  simp only [Lit.wf, Bool.and_eq_true, decide_eq_true_eq] at hw
  have h1 : (0 : Int) ≤ n := hw.1
  have h2 : n ≤ 255 := hw.2
  refine ⟨UInt8.ofNat n.toNat, ?_⟩
  have : ((UInt8.ofNat n.toNat).toNat : Int) = n := by
    rw [UInt8.toNat_ofNat']
    omega
  simp only [U8, this]

theorem trod_dig {t : TypeId} {fuel : Nat} {cs : List Value} {x : DataW H × List MemPlace} {base : Nat} {sp : Nat → Bool} {held : Bool} {w : World} (hk : DigT P t) (hz : P.cellsOf t = 8) (h : DataW.trod enc P w base sp held fuel t cs = some x) : ∃ d : BitVec 64, cs = digL d := by
  obtain ⟨e, i, he, hu, hi, hs⟩ := hk.spec
  have hce : P.cellsOf e = 1 := by unfold Program.cellsOf; rw [hi]; simpa using hs
  obtain ⟨xs, m, rfl, _, hlen, hxl, hel⟩ := DataW.trod_array he h
  rw [hz] at hlen
  have each : ∀ i, i < 8 → ∃ b : UInt8, (cs.drop i).take 1 = [U8 b] := fun i hi => by
    have := hel i hi
    rw [hce, Nat.mul_one, List.getElem?_eq_getElem (by omega)] at this
    exact trod_u8 hu this
  match cs, hlen with
  | [c0, c1, c2, c3, c4, c5, c6, c7], _ =>
    obtain ⟨b0, e0⟩ := each 0 (by omega)
    obtain ⟨b1, e1⟩ := each 1 (by omega)
    obtain ⟨b2, e2⟩ := each 2 (by omega)
    obtain ⟨b3, e3⟩ := each 3 (by omega)
    obtain ⟨b4, e4⟩ := each 4 (by omega)
    obtain ⟨b5, e5⟩ := each 5 (by omega)
    obtain ⟨b6, e6⟩ := each 6 (by omega)
    obtain ⟨b7, e7⟩ := each 7 (by omega)
    simp at e0 e1 e2 e3 e4 e5 e6 e7
    refine ⟨numL [b0, b1, b2, b3, b4, b5, b6, b7], ?_⟩
    rw [dig_numL rfl, e0, e1, e2, e3, e4, e5, e6, e7]
    rfl

variable {r : Reach} {b0 : Nat} {t e : TypeId} {v : Value} {d : DataW H} {ps : List MemPlace} {base : Nat} {sp : Nat → Bool} {held : Bool} {w : World}

theorem open_dig (hk : DigT P t) (hz : P.cellsOf t = 8) (hval : Value.okWide P w r b0 t v) (hd : DataW.Trod enc P w base sp held t v d ps) : ∃ x : BitVec 64, v = Dig x := by
  obtain ⟨e, i, he, hu, hi, hs⟩ := hk.spec
  simp only [Value.okWide, he] at hval
  obtain ⟨cs, rfl, _⟩ := hval
  obtain ⟨fuel, hf⟩ := hd
  obtain ⟨x, hx⟩ := trod_dig hk hz hf
  exact ⟨x, congrArg Value.agg (Array.toList_inj.1 hx)⟩

theorem open_u64 (ht : P.underlying t = some (.int .u64)) (hval : Value.okWide P w r b0 t v) (hd : DataW.Trod enc P w base sp held t v d ps) : ∃ x : BitVec 64, v = U64 x := by
  obtain ⟨n, rfl, _, _, hw⟩ := open_int ht hval hd
  simp only [Lit.wf, Bool.and_eq_true, decide_eq_true_eq] at hw
  have h1 : (0 : Int) ≤ n := hw.1
  have h2 : n ≤ 18446744073709551615 := hw.2
  refine ⟨BitVec.ofInt 64 n, ?_⟩
  have : ((BitVec.ofInt 64 n).toNat : Int) = n := by
    rw [BitVec.toNat_ofInt]
    omega
  simp only [U64, this]

theorem open_u8 (ht : P.underlying t = some (.int .u8)) (hval : Value.okWide P w r b0 t v) (hd : DataW.Trod enc P w base sp held t v d ps) : ∃ b : UInt8, v = U8 b := by
  obtain ⟨n, rfl, _, _, hw⟩ := open_int ht hval hd
  obtain ⟨fuel, hf⟩ := hd
  obtain ⟨b, hb⟩ := trod_u8 ht hf
  simp only [Value.cells, List.cons.injEq, and_true] at hb
  exact ⟨b, hb⟩

theorem open_kind {k : IntKind} (ht : P.underlying t = some (.int k)) (hval : Value.okWide P w r b0 t v) (hd : DataW.Trod enc P w base sp held t v d ps) : ∃ n : Int, v = .int k n ∧ k.min ≤ n ∧ n ≤ k.max := by
  obtain ⟨n, rfl, _, _, hw⟩ := open_int ht hval hd
  simp only [Lit.wf, Bool.and_eq_true, decide_eq_true_eq] at hw
  exact ⟨n, rfl, hw.1, hw.2⟩

theorem flat_get {α : Type} {f : α → List Value} {m : Nat} (hm : ∀ a, (f a).length = m) : ∀ (l : List α) (q : Nat) (v : Value), (l.flatMap f)[q]? = some v → ∃ (i j : Nat) (a : α), q = i * m + j ∧ j < m ∧ l[i]? = some a ∧ (f a)[j]? = some v
  | [], q, v, h => by simp at h
  | a :: l, q, v, h => by
    rw [List.flatMap_cons] at h
    by_cases hq : q < m
    · rw [List.getElem?_append_left (by rw [hm]; exact hq)] at h
      exact ⟨0, q, a, by omega, hq, rfl, h⟩
    · rw [List.getElem?_append_right (by rw [hm]; omega), hm] at h
      obtain ⟨i, j, b, e1, e2, e3, e4⟩ := flat_get hm l (q - m) v h
      exact ⟨i + 1, j, b, by rw [Nat.add_mul]; omega, e2, by simpa using e3, e4⟩

theorem map_flat {α : Type} (f : α → Value) : ∀ l : List α, l.map f = l.flatMap fun b => [f b]
  | [] => rfl
  | a :: l => by rw [List.map_cons, List.flatMap_cons, map_flat f l]; rfl

/-- A slice whose elements are known by what their cells hold. -/
theorem open_slice {α : Type} {f : α → List Value} {m : Nat} (ht : P.underlying t = some (.slice e)) (hc : P.cellsOf e = m) (hm : ∀ a, (f a).length = m)
    (hone : ∀ (n : Nat) (cs : List Value) (x : DataW H × List MemPlace), DataW.trod enc P w base sp held n e cs = some x → ∃ a : α, cs = f a)
    (hval : Value.okWide P w r b0 t v) (hd : DataW.Trod enc P w base sp held t v d ps) :
    ∃ (ba : Option Addr) (n cap : Nat) (l : List α), v = .slice ba n cap ∧ l.length = n ∧ n ≤ cap ∧ cap ≤ 9223372036854775807 ∧ Row w [] ba (l.flatMap f) := by
  obtain ⟨ba, len, cap, rfl⟩ := okWide_slice ht hval
  obtain ⟨fuel, hf⟩ := hd
  rcases DataW.trod_slice ht hf with ⟨hcs, _⟩ | ⟨a, len', cap', elems, rest, n, _, hcs, _, _, hl, hmx, hlen, hel, _⟩
  · simp only [Value.cells, List.cons.injEq, Value.slice.injEq, and_true] at hcs
    obtain ⟨rfl, rfl, rfl⟩ := hcs
    exact ⟨none, 0, 0, [], rfl, rfl, Nat.le_refl _, by omega, fun i v hv => by simp at hv⟩
  · simp only [Value.cells, List.cons.injEq, Value.slice.injEq, and_true] at hcs
    obtain ⟨rfl, rfl, rfl⟩ := hcs
    have each : ∀ i : Fin len, ∃ x : α, w.cells? base (a.add (i.1 * m)) m = some (f x) := fun i => by
      have := hel i.1 i.2
      rw [hc, List.getElem?_eq_getElem (by omega)] at this
      simp only [Option.bind_eq_some_iff] at this
      obtain ⟨cs, h1, h2⟩ := this
      obtain ⟨x, rfl⟩ := hone _ _ _ h2
      exact ⟨x, h1⟩
    refine ⟨some a, len, cap, List.ofFn fun i => (each i).choose, rfl, by simp, hl, by unfold maxLen at hmx; omega, ?_⟩
    intro q v hv
    obtain ⟨i, j, x, rfl, hj, hx, hv'⟩ := flat_get hm _ _ _ hv
    refine ⟨a, rfl, by simp, ?_⟩
    simp only [List.getElem?_ofFn] at hx
    split at hx
    · rename_i hi
      cases hx
      have h3 := (World.cells?_some (each ⟨i, hi⟩).choose_spec).2.2 j hj
      rw [add_add] at h3
      rw [h3]
      exact hv'
    · cases hx

theorem open_bytes (ht : P.underlying t = some (.slice e)) (he : P.underlying e = some (.int .u8)) (hc : P.cellsOf e = 1) (hval : Value.okWide P w r b0 t v) (hd : DataW.Trod enc P w base sp held t v d ps) :
    ∃ (ba : Option Addr) (n cap : Nat) (l : List UInt8), v = .slice ba n cap ∧ l.length = n ∧ n ≤ cap ∧ cap ≤ 9223372036854775807 ∧ Row w [] ba (l.map U8) := by
  obtain ⟨ba, n, cap, l, h1, h2, h3, h4, h5⟩ := open_slice (f := fun b : UInt8 => [U8 b]) ht hc (fun _ => rfl) (fun n cs x h => trod_u8 he h) hval hd
  exact ⟨ba, n, cap, l, h1, h2, h3, h4, by rw [map_flat]; exact h5⟩

theorem open_digs (ht : P.underlying t = some (.slice e)) (he : DigT P e) (hc : P.cellsOf e = 8) (hval : Value.okWide P w r b0 t v) (hd : DataW.Trod enc P w base sp held t v d ps) :
    ∃ (ba : Option Addr) (n cap : Nat) (l : List (BitVec 64)), v = .slice ba n cap ∧ l.length = n ∧ n ≤ cap ∧ cap ≤ 9223372036854775807 ∧ Row w [] ba (l.flatMap digL) :=
  open_slice ht hc (fun _ => rfl) (fun n cs x h => trod_dig he hc h) hval hd

theorem open_bools (ht : P.underlying t = some (.slice e)) (he : P.underlying e = some .bool) (hc : P.cellsOf e = 1) (hval : Value.okWide P w r b0 t v) (hd : DataW.Trod enc P w base sp held t v d ps) :
    ∃ (ba : Option Addr) (n cap : Nat) (l : List Bool), v = .slice ba n cap ∧ l.length = n ∧ n ≤ cap ∧ cap ≤ 9223372036854775807 ∧ Row w [] ba (l.map Value.bool) := by
  obtain ⟨ba, n, cap, l, h1, h2, h3, h4, h5⟩ := open_slice (f := fun b : Bool => [Value.bool b]) ht hc (fun _ => rfl) (fun n cs x h => by
    obtain ⟨b, hb, _⟩ := DataW.trod_bool he h
    exact ⟨b, hb⟩) hval hd
  exact ⟨ba, n, cap, l, h1, h2, h3, h4, by rw [map_flat]; exact h5⟩
end
end Go.Eng
