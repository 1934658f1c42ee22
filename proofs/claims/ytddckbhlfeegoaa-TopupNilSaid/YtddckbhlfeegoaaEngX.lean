/-
  Engine, part X: arguments that are arrays, opened.
-/
import Derived.Test.YtddckbhlfeegoaaEngY
namespace Go.Eng
open Go Go.ChangeMaps Go.ChangeShapes
set_option linter.unusedVariables false
set_option linter.unusedSimpArgs false
section
variable {P : Program} {H : Type} {enc : TypeId × Value → H} {r : Reach} {b0 : Nat} {t e : TypeId} {v : Value} {d : DataW H} {ps : List MemPlace} {base : Nat} {sp : Nat → Bool} {held : Bool} {w : World}
theorem open_pair (ht : P.underlying t = some (.array 2 e)) (hk : DigT P e) (hce : P.cellsOf e = 8) (hct : P.cellsOf t = 16) (hval : Value.okWide P w r b0 t v) (hd : DataW.Trod enc P w base sp held t v d ps) :
    ∃ x y : BitVec 64, v = .agg ([U8 (bt x 0), U8 (bt x 1), U8 (bt x 2), U8 (bt x 3), U8 (bt x 4), U8 (bt x 5), U8 (bt x 6), U8 (bt x 7), U8 (bt y 0), U8 (bt y 1), U8 (bt y 2), U8 (bt y 3), U8 (bt y 4), U8 (bt y 5), U8 (bt y 6), U8 (bt y 7)] : List Value).toArray := by
  simp only [Value.okWide, ht] at hval
  obtain ⟨cs, rfl, _⟩ := hval
  obtain ⟨fuel, hf⟩ := hd
  obtain ⟨xs, m, rfl, _, hlen, hxl, hel⟩ := DataW.trod_array ht hf
  rw [hct] at hlen
  have h0 := hel 0 (by omega)
  have h1 := hel 1 (by omega)
  rw [hce, List.getElem?_eq_getElem (by omega)] at h0 h1
  obtain ⟨x, hx⟩ := trod_dig hk hce h0
  obtain ⟨y, hy⟩ := trod_dig hk hce h1
  refine ⟨x, y, congrArg Value.agg (Array.toList_inj.1 ?_)⟩
  have hl : (Value.agg cs).cells.toList.length = 16 := hlen
  have e1 : cs.toList = cs.toList.take 8 ++ cs.toList.drop 8 := (List.take_append_drop 8 _).symm
  have e2 : (cs.toList.drop 8).take 8 = cs.toList.drop 8 := List.take_of_length_le (by rw [List.length_drop]; simp [Value.cells] at hl; simp; omega)
  have hx' : cs.toList.take 8 = digL x := by simpa [Value.cells] using hx
  have hy' : (cs.toList.drop 8).take 8 = digL y := by simpa [Value.cells] using hy
  rw [e1, hx', ← e2, hy']; rfl
theorem open_ints2 (ht : P.underlying t = some (.array 2 e)) (he : P.underlying e = some (.int .i64)) (hce : P.cellsOf e = 1) (hct : P.cellsOf t = 2) (hval : Value.okWide P w r b0 t v) (hd : DataW.Trod enc P w base sp held t v d ps) :
    ∃ x y : Int, v = .agg ([I64 x, I64 y] : List Value).toArray ∧ (-9223372036854775808 ≤ x ∧ x ≤ 9223372036854775807) ∧ (-9223372036854775808 ≤ y ∧ y ≤ 9223372036854775807) := by
  simp only [Value.okWide, ht] at hval
  obtain ⟨cs, rfl, _⟩ := hval
  obtain ⟨fuel, hf⟩ := hd
  obtain ⟨xs, m, rfl, _, hlen, hxl, hel⟩ := DataW.trod_array ht hf
  rw [hct] at hlen
  have h0 := hel 0 (by omega)
  have h1 := hel 1 (by omega)
  rw [hce, List.getElem?_eq_getElem (by omega)] at h0 h1
  obtain ⟨x, hx, _, wx⟩ := DataW.trod_int he h0
  obtain ⟨y, hy, _, wy⟩ := DataW.trod_int he h1
  simp only [Lit.wf, Bool.and_eq_true, decide_eq_true_eq] at wx wy
  refine ⟨x, y, congrArg Value.agg (Array.toList_inj.1 ?_), wx, wy⟩
  have hl : cs.toList.length = 2 := by simpa [Value.cells] using hlen
  have hx' : cs.toList.take 1 = [I64 x] := by simpa [Value.cells] using hx
  have hy' : (cs.toList.drop 1).take 1 = [I64 y] := by simpa [Value.cells] using hy
  generalize cs.toList = c at *
  match c, hl with
  | [a, b], _ =>
    simp at hx' hy'
    rw [hx', hy']
end
end Go.Eng
