/- TowerNewest: for every input the law answers true and each argument reads as it did. No condition. -/
import Derived.Test.YtddckbhlfeegoaaRows
import Derived.Test.YtddckbhlfeegoaaWBorder
import Derived.Test.YtddckbhlfeegoaaEngXa
import Derived.Test.YtddckbhlfeegoaaWBlaw51n
import Derived.WalkKit
import Derived.ProofKit
import Derived.OpenShut
import Derived.JoinedCond
import Derived.ChangeMaps5
namespace Go.Proofs.Ytddckbhlfeegoaa.towerNewest
open Go Go.Eng Go.ChangeMaps Go.ChangeShapes Go.WideShapes Go.ChangeAt Go.RowKit
set_option linter.unusedVariables false
set_option linter.unusedSimpArgs false

theorem own : ownKnob Try.prog.godebug = none := by kernel_rfl
theorem laid : laidOutB Try.prog = true := by kernel_rfl
theorem dg30 : DigT Try.prog 30 := ⟨by kernel_rfl, by kernel_rfl⟩
theorem ce30 : Try.prog.cellsOf 30 = 8 := by kernel_rfl

set_option maxRecDepth 100000 in
theorem contract (H : Type) (enc : TypeId × Value → H) (W : World) (base : Nat) (args : Array Value) (ds gs : List (DataW H)) (before : List MemPlace)
    (hval : ∀ (j : Nat) t v, Try.f12.params[j]? = some t → args[j]? = some v → Value.okWide Try.prog W .any base t v)
    (hW : DataW.Whole enc Try.prog Try.f12.params.toList Rows.towerNewestSpec.vars false W args.toList ds gs before) (hwt : (DataW.weightsEach Try.prog (Try.f12.params.toList ++ Rows.towerNewestSpec.plain.varTypes Try.prog) (ds ++ gs)).all (· ≤ reachBytes) = true) :
    Calls Try.prog 12 args W fun e W' => ∃ v, e = .returned v ∧ Rows.towerNewestSpec.post enc Try.prog Try.f12 false true false false W args v W' := by
  have hW' := hW
  obtain ⟨p, q, hA0, hV, rfl, hfz, hnd⟩ := hW
  have hA : DataW.TrodAll enc Try.prog W 0 (fun _ => true) true Try.f12.params.toList args.toList ds p := hA0
  rw [Try.params12] at hA hval
  obtain ⟨v0, vs0, d0, ds0, p0, q0, hargs, rfl, rfl, h0, r0⟩ := trodAll_cons hA
  obtain ⟨v1, vs1, d1, ds1, p1, q1, rfl, rfl, rfl, h1, r1⟩ := trodAll_cons r0
  obtain ⟨rfl, rfl, rfl⟩ := trodAll_nil r1
  obtain rfl : args = #[v0, v1] := by cases args; simp_all
  obtain ⟨rfl, rfl⟩ := trodVars_none hV
  rw [Try.params12] at hwt
  simp only [List.append_nil, List.all_eq_true, decide_eq_true_eq] at hwt
  have wt := hwt
  obtain ⟨x0, rfl⟩ := open_dig dg30 ce30 (hval 0 30 v0 rfl rfl) h0
  obtain ⟨ba1, n1, c1, x1, rfl, hn1, hc1, hm1, hq1, hr1⟩ := open_intsW (by kernel_rfl : Try.prog.underlying 22 = some (.slice 3)) (by kernel_rfl) (by kernel_rfl) (by kernel_rfl) (hval 1 22 v1 rfl rfl) h1 (fun m hm => wt m (DataW.weights_mem_each (j := 1) rfl rfl m hm))
  refine (towerNewest_walk x0 ba1 n1 c1 x1 hn1 W (fun _ h => by cases h) List.nodup_nil hr1).mono fun e W' ⟨v, L', e1, ⟨e2, e3⟩, hi⟩ => ?_
  subst e1; subst e2; subst e3
  exact ⟨_, rfl, post_true laid (by kernel_rfl) rfl (by kernel_rfl) (by kernel_rfl : Try.prog.underlying 4 = some .bool) rfl hW' hi⟩

set_option maxRecDepth 100000 in
theorem lifted (os : Os) (started : os.Started) (H : Type) (enc : TypeId × Value → H) :
    ReturnsInHanded {} Try.checked os 12 .any (Rows.towerNewestSpec.pre6 enc Try.prog Try.f12 Rows.towerNewestRow.domain false) (Rows.towerNewestSpec.post enc Try.prog Try.f12 false true false false) := by
  refine sized_change (C := Try.checked) own started (by kernel_rfl) Try.func12
    (ChangeSpec.witness6 (enc := enc) (C := Try.checked) false ⟨#[], #[.agg #[.int .u8 0, .int .u8 0, .int .u8 0, .int .u8 0, .int .u8 0, .int .u8 0, .int .u8 0, .int .u8 0], .slice none 0 0], []⟩ 8 (by kernel_rfl) (by kernel_rfl) (by kernel_rfl) (by kernel_rfl)) ?_
  intro W base args ds gs before hval hW hwt
  exact contract H enc W base args ds gs before hval hW hwt

set_option maxRecDepth 100000 in
theorem closed : joinedFacts Try.pinned.checked.prog 12 Try.f12 Rows.towerNewestSpec Rows.towerNewestRow = true := by
  unfold joinedFacts; rewrite [enters_may, lifts_none, make_cut]; kernel_rfl

theorem over : Rows.towerNewestRow.holds Try.pinned (OpenSpec.ofChange Rows.towerNewestSpec) :=
  OpenClaim.holds_of_wide 12 Try.f12 rfl rfl rfl rfl rfl rfl rfl ⟨rfl, rfl, rfl, rfl, rfl⟩ rfl rfl rfl rfl rfl (by kernel_rfl) Try.func12 closed
    (of_decide_eq_true (by kernel_rfl)) (by unfold Func.isWrapper; first | (rw [if_pos (by decide +kernel)]; kernel_rfl) | (rw [if_neg (by decide +kernel)]; exact ⟨rfl, rfl⟩))
    (fun os started H enc _ => lifted os started H enc)

theorem proved : Rows.TowerNewestSaid :=
  over
end Go.Proofs.Ytddckbhlfeegoaa.towerNewest
