/- Arguments that are rows of rows of bytes, opened. -/
import Derived.Test.YtddckbhlfeegoaaEngZ
import Derived.Test.YtddckbhlfeegoaaEngJ
import Derived.SizedLaws
import Derived.Handed
import Derived.JoinedCond
namespace Go.Eng
open Go Go.ChangeShapes Go.WideShapes Go.WideElems
set_option linter.unusedVariables false
set_option linter.unusedSimpArgs false
section
variable {H : Type} {enc : TypeId × Value → H} {P : Program}
variable {r : Reach} {b0 : Nat} {t e u : TypeId} {v : Value} {d : DataW H} {ps : List MemPlace} {base : Nat} {sp : Nat → Bool} {held : Bool} {w : World}

theorem weights_all {e : TypeId} : ∀ {l : List (DataW H)} {d : DataW H} {m : Nat}, d ∈ l → m ∈ d.weights P e → m ∈ DataW.weightsAll P e l
  | x :: l, d, m, h, hm => by
    unfold DataW.weightsAll
    rcases List.mem_cons.1 h with rfl | h
    · exact List.mem_append_left _ hm
    · exact List.mem_append_right _ (weights_all h hm)

theorem trod_bytes {fuel : Nat} {cs : List Value} {x : DataW H × List MemPlace} (ht : P.underlying e = some (.slice u)) (hu : P.underlying u = some (.int .u8)) (hc : P.cellsOf u = 1) (hb : P.bytesOf u = 1)
    (h : DataW.trod enc P w base sp held fuel e cs = some x) (hw : ∀ m ∈ x.1.weights P e, m ≤ reachBytes) :
    ∃ p : Piece, cs = [p.v] ∧ p.2.2.2.length = p.2.1 ∧ p.2.1 ≤ p.2.2.1 ∧ p.2.1 ≤ 140737488351232 ∧ Row w [] p.1 (p.2.2.2.map U8) := by
  rcases DataW.trod_slice ht h with ⟨rfl, rfl⟩ | ⟨a, len, cap, elems, rest, n, rfl, rfl, rfl, _, hl, hmx, hlen, hel, _⟩
  · exact ⟨(none, 0, 0, []), rfl, rfl, Nat.le_refl _, by show 0 ≤ _; omega, fun i v hv => by simp at hv⟩
  · have hsz : len ≤ 140737488351232 := by
      have := hw ((elems.length + rest.length) * P.bytesOf u) (by
        unfold DataW.weights
        simp [ht])
      unfold reachBytes at this
      rw [hb] at this
      omega
    have hval : ∃ (ba : Option Addr) (n' cap' : Nat) (l : List UInt8), Value.slice (some a) len cap = .slice ba n' cap' ∧ l.length = n' ∧ n' ≤ cap' ∧ Row w [] ba (l.map U8) := by
      have each : ∀ i : Fin len, ∃ b : UInt8, w.cells? base (a.add i.1) 1 = some [U8 b] := fun i => by
        have := hel i.1 i.2
        rw [hc, Nat.mul_one, List.getElem?_eq_getElem (by omega)] at this
        simp only [Option.bind_eq_some_iff] at this
        obtain ⟨cs, h1, h2⟩ := this
        obtain ⟨x, rfl⟩ := trod_u8 hu h2
        exact ⟨x, h1⟩
      refine ⟨some a, len, cap, List.ofFn fun i => (each i).choose, rfl, by simp, hl, ?_⟩
      intro q v hv
      refine ⟨a, rfl, by simp, ?_⟩
      simp only [List.getElem?_map, List.getElem?_ofFn] at hv
      split at hv
      · rename_i hi
        simp only [Option.map_some, Option.some.injEq] at hv
        subst hv
        have h3 := (World.cells?_some (each ⟨q, hi⟩).choose_spec).2.2 0 (by omega)
        rw [add_add, Nat.add_zero] at h3
        exact h3
      · simp at hv
    obtain ⟨ba, n', cap', l, e1, e2, e3, e4⟩ := hval
    cases e1
    exact ⟨(some a, len, cap, l), rfl, e2, e3, hsz, e4⟩

theorem open_bytess (ht : P.underlying t = some (.slice e)) (he : P.underlying e = some (.slice u)) (hu : P.underlying u = some (.int .u8)) (hce : P.cellsOf e = 1) (hc : P.cellsOf u = 1) (hb : P.bytesOf u = 1)
    (hval : Value.okWide P w r b0 t v) (hd : DataW.Trod enc P w base sp held t v d ps) (hw : ∀ m ∈ d.weights P t, m ≤ reachBytes) :
    ∃ (ba : Option Addr) (n cap : Nat) (l : List Piece), v = .slice ba n cap ∧ l.length = n ∧ (∀ p ∈ l, p.2.2.2.length = p.2.1 ∧ p.2.1 ≤ p.2.2.1 ∧ p.2.1 ≤ 140737488351232) ∧ Row w [] ba (l.map Piece.v) ∧ ∀ p ∈ l, Row w [] p.1 (p.2.2.2.map U8) := by
  obtain ⟨ba, len, cap, rfl⟩ := okWide_slice ht hval
  obtain ⟨fuel, hf⟩ := hd
  rcases DataW.trod_slice ht hf with ⟨hcs, _⟩ | ⟨a, len', cap', elems, rest, n, rfl, hcs, hx, _, hl, hmx, hlen, hel, _⟩
  · simp only [Value.cells, List.cons.injEq, Value.slice.injEq, and_true] at hcs
    obtain ⟨rfl, rfl, rfl⟩ := hcs
    refine ⟨none, 0, 0, [], rfl, rfl, ?_, ?_, ?_⟩
    · intro p hp; cases hp
    · intro i v hv; simp at hv
    · intro p hp; cases hp
  · simp only [Value.cells, List.cons.injEq, Value.slice.injEq, and_true] at hcs
    obtain ⟨rfl, rfl, rfl⟩ := hcs
    simp only [Prod.mk.injEq] at hx
    obtain ⟨rfl, _⟩ := hx
    have each : ∀ i : Fin len, ∃ p : Piece, w.cells? base (a.add i.1) 1 = some [p.v] ∧ p.2.2.2.length = p.2.1 ∧ p.2.1 ≤ p.2.2.1 ∧ p.2.1 ≤ 140737488351232 ∧ Row w [] p.1 (p.2.2.2.map U8) := fun i => by
      have := hel i.1 i.2
      rw [hce, Nat.mul_one, List.getElem?_eq_getElem (by omega)] at this
      simp only [Option.bind_eq_some_iff] at this
      obtain ⟨cs, h1, h2⟩ := this
      obtain ⟨p, rfl, hp⟩ := trod_bytes he hu hc hb h2 (fun m hm => hw m (by
        unfold DataW.weights
        simp only [ht]
        refine List.mem_cons_of_mem _ (List.mem_append_left _ (weights_all (d := elems[i.1].1) ?_ hm))
        exact List.mem_map.2 ⟨_, List.getElem_mem _, rfl⟩))
      exact ⟨p, h1, hp⟩
    have hmem : ∀ p ∈ List.ofFn (fun i => (each i).choose), ∃ i, p = (each i).choose := fun p hp => by
      obtain ⟨i, hi⟩ := List.mem_ofFn.1 hp
      exact ⟨i, hi.symm⟩
    refine ⟨some a, len, cap, List.ofFn fun i => (each i).choose, rfl, by simp, fun p hp => ?_, ?_, fun p hp => ?_⟩
    · obtain ⟨i, rfl⟩ := hmem p hp
      exact ⟨(each i).choose_spec.2.1, (each i).choose_spec.2.2.1, (each i).choose_spec.2.2.2.1⟩
    · intro q v hv
      refine ⟨a, rfl, by simp, ?_⟩
      simp only [List.getElem?_map, List.getElem?_ofFn] at hv
      split at hv
      · rename_i hi
        simp only [Option.map_some, Option.some.injEq] at hv
        subst hv
        have h3 := (World.cells?_some (each ⟨q, hi⟩).choose_spec.1).2.2 0 (by omega)
        rw [add_add, Nat.add_zero] at h3
        exact h3
      · simp at hv
    · obtain ⟨i, rfl⟩ := hmem p hp
      exact (each i).choose_spec.2.2.2.2
/-- The form's step, where the walk needs the bound on what came in. -/
theorem sized_change {C : Checked} {os : Os} {f : FuncId} {fn : Func} {s : ChangeSpec} {conds : List PathCond} {apart fresh handsOn again : Bool}
    (own : ownKnob C.prog.godebug = none) (started : os.Started) (noInit : C.prog.inits.idxOf? f = none) (hfn : C.prog.funcs[f]? = some fn)
    (witness : ∃ (w : World) (tape : Tape) (i : Input), w.os = os ∧ (w.forCall tape i).Shaped C.prog ∧ i.vars = [] ∧ Input.okWide C.prog (w.forCall tape i) .any w.heap.size f i ∧
      s.pre6 enc C.prog fn conds apart (w.forCall tape i).memory i.args ∧ ({} : Assume).holds C.prog (lone (Frame.enter C.prog f i.args .normal) [] (w.forCall tape i)))
    (contract : ∀ (W : World) (base : Nat) (args : Array Value) (ds gs : List (DataW H)) (before : List MemPlace),
      (∀ (j : Nat) t v, fn.params[j]? = some t → args[j]? = some v → Value.okWide C.prog W .any base t v) →
      DataW.Whole enc C.prog fn.params.toList s.vars apart W args.toList ds gs before →
      (DataW.weightsEach C.prog (fn.params.toList ++ s.plain.varTypes C.prog) (ds ++ gs)).all (· ≤ reachBytes) = true →
      Calls C.prog f args W fun e W' => ∃ v, e = .returned v ∧ s.post enc C.prog fn apart fresh handsOn again W args v W') :
    ReturnsInHanded {} C os f .any (s.pre6 enc C.prog fn conds apart) (s.post enc C.prog fn apart fresh handsOn again) := by
  refine returnsInHanded_of_calls own started noInit witness ?_
  intro w tape i _ _ _ hok hpre _
  obtain ⟨_, _, _, fn', hfn', _, _, _, _, hval⟩ := hok
  obtain rfl : fn' = fn := Option.some.inj (hfn'.symm.trans hfn)
  obtain ⟨⟨ds, gs, before, hw, _⟩, hz⟩ := hpre
  have hw' := DataW.Whole.of_heap (w' := w.forCall tape i) (by rfl) hw
  refine (contract (w.forCall tape i) w.heap.size i.args ds gs before hval hw' (hz.weights hw)).mono fun e W' ⟨v, he, hp⟩ => ?_
  subst he
  exact ChangeSpec.post_blind hp
end
end Go.Eng
