/- TopupNil: for every input the law answers true and each argument reads as it did. No condition. -/
import Derived.Test.YtddckbhlfeegoaaRows
import Derived.Test.YtddckbhlfeegoaaWBorder
import Derived.Test.YtddckbhlfeegoaaEngXa
import Derived.Test.YtddckbhlfeegoaaWBlaw37n
import Derived.WalkKit
import Derived.ProofKit
import Derived.OpenShut
import Derived.JoinedCond
import Derived.ChangeMaps5
namespace Go.Proofs.Ytddckbhlfeegoaa.topupNil
open Go Go.Eng Go.ChangeMaps Go.ChangeShapes Go.WideShapes Go.ChangeAt Go.RowKit
set_option linter.unusedVariables false
set_option linter.unusedSimpArgs false

theorem own : ownKnob Try.prog.godebug = none := by kernel_rfl
theorem laid : laidOutB Try.prog = true := by kernel_rfl
theorem dg31 : DigT Try.prog 31 := ⟨by kernel_rfl, by kernel_rfl⟩
theorem ce31 : Try.prog.cellsOf 31 = 8 := by kernel_rfl
theorem ra33 : RaF Try.prog 33 31 3 22 3 3 := ⟨by kernel_rfl, by kernel_rfl, by kernel_rfl, by kernel_rfl, by kernel_rfl, by kernel_rfl, by kernel_rfl, by kernel_rfl, by kernel_rfl, dg31, by kernel_rfl, by kernel_rfl, by kernel_rfl, by kernel_rfl, by kernel_rfl, by kernel_rfl⟩

set_option maxRecDepth 100000 in
theorem contract (H : Type) (enc : TypeId × Value → H) (W : World) (base : Nat) (args : Array Value) (ds gs : List (DataW H)) (before : List MemPlace)
    (hval : ∀ (j : Nat) t v, Try.f7.params[j]? = some t → args[j]? = some v → Value.okWide Try.prog W .any base t v)
    (hW : DataW.Whole enc Try.prog Try.f7.params.toList Rows.topupNilSpec.vars false W args.toList ds gs before) (hwt : (DataW.weightsEach Try.prog (Try.f7.params.toList ++ Rows.topupNilSpec.plain.varTypes Try.prog) (ds ++ gs)).all (· ≤ reachBytes) = true) :
    Calls Try.prog 7 args W fun e W' => ∃ v, e = .returned v ∧ Rows.topupNilSpec.post enc Try.prog Try.f7 false true false false W args v W' := by
  have hW' := hW
  obtain ⟨p, q, hA0, hV, rfl, hfz, hnd⟩ := hW
  have hA : DataW.TrodAll enc Try.prog W 0 (fun _ => true) true Try.f7.params.toList args.toList ds p := hA0
  rw [Try.params7] at hA hval
  obtain ⟨v0, vs0, d0, ds0, p0, q0, hargs, rfl, rfl, h0, r0⟩ := trodAll_cons hA
  obtain ⟨rfl, rfl, rfl⟩ := trodAll_nil r0
  obtain rfl : args = #[v0] := by cases args; simp_all
  obtain ⟨rfl, rfl⟩ := trodVars_none hV
  rw [Try.params7] at hwt
  simp only [List.append_nil, List.all_eq_true, decide_eq_true_eq] at hwt
  have wt := hwt
  obtain ⟨xk0, xh0, xs0, xm0, xt0, xn0, xu0, ba0, n0, c0, x0, rfl, hn0, hc0, hm0, hr0⟩ := open_act ra33 (by kernel_rfl : fieldAt Try.prog 35 0 = some (3, 0)) (by kernel_rfl : fieldAt Try.prog 35 1 = some (3, 1)) (by kernel_rfl : fieldAt Try.prog 35 2 = some (3, 2)) (by kernel_rfl : fieldAt Try.prog 35 3 = some (3, 3)) (by kernel_rfl : fieldAt Try.prog 35 4 = some (33, 4)) (by kernel_rfl) (by kernel_rfl) (by kernel_rfl) (by kernel_rfl) (by kernel_rfl) (by kernel_rfl) (by kernel_rfl) (by kernel_rfl) (by kernel_rfl) (hval 0 35 v0 rfl rfl) h0 (fun m hm => wt m (DataW.weights_mem_each (j := 0) rfl rfl m hm))
  refine (topupNil_walk xk0 xh0 xs0 xm0 xt0 xn0 xu0 ba0 n0 c0 x0 hn0 hc0 hm0 W (fun _ h => by cases h) List.nodup_nil hr0).mono fun e W' ⟨v, L', e1, ⟨e2, e3⟩, hi⟩ => ?_
  subst e1; subst e2; subst e3
  exact ⟨_, rfl, post_true laid (by kernel_rfl) rfl (by kernel_rfl) (by kernel_rfl : Try.prog.underlying 4 = some .bool) rfl hW' hi⟩

set_option maxRecDepth 100000 in
theorem lifted (os : Os) (started : os.Started) (H : Type) (enc : TypeId × Value → H) :
    ReturnsInHanded {} Try.checked os 7 .any (Rows.topupNilSpec.pre6 enc Try.prog Try.f7 Rows.topupNilRow.domain false) (Rows.topupNilSpec.post enc Try.prog Try.f7 false true false false) := by
  refine sized_change (C := Try.checked) own started (by kernel_rfl) Try.func7
    (ChangeSpec.witness6 (enc := enc) (C := Try.checked) false ⟨#[], #[.agg #[.int .i64 0, .int .i64 0, .int .i64 0, .int .i64 0, .int .u8 0, .int .u8 0, .int .u8 0, .int .u8 0, .int .u8 0, .int .u8 0, .int .u8 0, .int .u8 0, .int .i64 0, .slice none 0 0, .int .i64 0]], []⟩ 8 (by kernel_rfl) (by kernel_rfl) (by kernel_rfl) (by kernel_rfl)) ?_
  intro W base args ds gs before hval hW hwt
  exact contract H enc W base args ds gs before hval hW hwt

set_option maxRecDepth 100000 in
theorem closed : joinedFacts Try.pinned.checked.prog 7 Try.f7 Rows.topupNilSpec Rows.topupNilRow = true := by
  unfold joinedFacts; rewrite [enters_may, lifts_none, make_cut]; kernel_rfl

theorem over : Rows.topupNilRow.holds Try.pinned (OpenSpec.ofChange Rows.topupNilSpec) :=
  OpenClaim.holds_of_wide 7 Try.f7 rfl rfl rfl rfl rfl rfl rfl ⟨rfl, rfl, rfl, rfl, rfl⟩ rfl rfl rfl rfl rfl (by kernel_rfl) Try.func7 closed
    (of_decide_eq_true (by kernel_rfl)) (by unfold Func.isWrapper; first | (rw [if_pos (by decide +kernel)]; kernel_rfl) | (rw [if_neg (by decide +kernel)]; exact ⟨rfl, rfl⟩))
    (fun os started H enc _ => lifted os started H enc)

theorem proved : Rows.TopupNilSaid :=
  over
end Go.Proofs.Ytddckbhlfeegoaa.topupNil
