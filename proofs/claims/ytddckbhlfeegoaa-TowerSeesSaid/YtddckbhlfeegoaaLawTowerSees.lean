/- TowerSees: for every input the law answers true and each argument reads as it did. No condition. -/
import Derived.Test.YtddckbhlfeegoaaRows
import Derived.Test.YtddckbhlfeegoaaWBorder
import Derived.Test.YtddckbhlfeegoaaEngXa
import Derived.Test.YtddckbhlfeegoaaWBlaw51s
import Derived.WalkKit
import Derived.ProofKit
import Derived.OpenShut
import Derived.JoinedCond
import Derived.ChangeMaps5
namespace Go.Proofs.Ytddckbhlfeegoaa.towerSees
open Go Go.Eng Go.ChangeMaps Go.ChangeShapes Go.WideShapes Go.ChangeAt Go.RowKit
set_option linter.unusedVariables false
set_option linter.unusedSimpArgs false

theorem own : ownKnob Try.prog.godebug = none := by kernel_rfl
theorem laid : laidOutB Try.prog = true := by kernel_rfl
theorem dg30 : DigT Try.prog 30 := ⟨by kernel_rfl, by kernel_rfl⟩
theorem ce30 : Try.prog.cellsOf 30 = 8 := by kernel_rfl

set_option maxRecDepth 100000 in
theorem contract (H : Type) (enc : TypeId × Value → H) (W : World) (base : Nat) (args : Array Value) (ds gs : List (DataW H)) (before : List MemPlace)
    (hval : ∀ (j : Nat) t v, Try.f11.params[j]? = some t → args[j]? = some v → Value.okWide Try.prog W .any base t v)
    (hW : DataW.Whole enc Try.prog Try.f11.params.toList Rows.towerSeesSpec.vars false W args.toList ds gs before) :
    Calls Try.prog 11 args W fun e W' => ∃ v, e = .returned v ∧ Rows.towerSeesSpec.post enc Try.prog Try.f11 false true false false W args v W' := by
  have hW' := hW
  obtain ⟨p, q, hA0, hV, rfl, hfz, hnd⟩ := hW
  have hA : DataW.TrodAll enc Try.prog W 0 (fun _ => true) true Try.f11.params.toList args.toList ds p := hA0
  rw [Try.params11] at hA hval
  obtain ⟨v0, vs0, d0, ds0, p0, q0, hargs, rfl, rfl, h0, r0⟩ := trodAll_cons hA
  obtain ⟨v1, vs1, d1, ds1, p1, q1, rfl, rfl, rfl, h1, r1⟩ := trodAll_cons r0
  obtain ⟨v2, vs2, d2, ds2, p2, q2, rfl, rfl, rfl, h2, r2⟩ := trodAll_cons r1
  obtain ⟨rfl, rfl, rfl⟩ := trodAll_nil r2
  obtain rfl : args = #[v0, v1, v2] := by cases args; simp_all
  obtain ⟨rfl, rfl⟩ := trodVars_none hV
  obtain ⟨x0, rfl⟩ := open_dig dg30 ce30 (hval 0 30 v0 rfl rfl) h0
  obtain ⟨x1, rfl⟩ := open_dig dg30 ce30 (hval 1 30 v1 rfl rfl) h1
  obtain ⟨x2, y2, z2, w2, rfl, bx2, by2⟩ := open_claim (by kernel_rfl : fieldAt Try.prog 83 0 = some (3, 0)) (by kernel_rfl : fieldAt Try.prog 83 1 = some (3, 1)) (by kernel_rfl : fieldAt Try.prog 83 2 = some (9, 2)) (by kernel_rfl : fieldAt Try.prog 83 3 = some (4, 3)) (by kernel_rfl) (by kernel_rfl) (by kernel_rfl) (by kernel_rfl) (by kernel_rfl) (by kernel_rfl) (by kernel_rfl) (by kernel_rfl) (by kernel_rfl) (hval 2 83 v2 rfl rfl) h2
  refine (towerSees_walk x0 x1 x2 y2 z2 w2 W (fun _ h => by cases h) List.nodup_nil trivial).mono fun e W' ⟨v, L', e1, ⟨e2, e3⟩, hi⟩ => ?_
  subst e1; subst e2; subst e3
  exact ⟨_, rfl, post_true laid (by kernel_rfl) rfl (by kernel_rfl) (by kernel_rfl : Try.prog.underlying 4 = some .bool) rfl hW' hi⟩

set_option maxRecDepth 100000 in
theorem lifted (os : Os) (started : os.Started) (H : Type) (enc : TypeId × Value → H) :
    ReturnsInHanded {} Try.checked os 11 .any (Rows.towerSeesSpec.pre6 enc Try.prog Try.f11 Rows.towerSeesRow.domain false) (Rows.towerSeesSpec.post enc Try.prog Try.f11 false true false false) := by
  refine returnsInHanded_of_change (C := Try.checked) own started (by kernel_rfl) Try.func11
    (ChangeSpec.witness6 (enc := enc) (C := Try.checked) false ⟨#[], #[.agg #[.int .u8 0, .int .u8 0, .int .u8 0, .int .u8 0, .int .u8 0, .int .u8 0, .int .u8 0, .int .u8 0], .agg #[.int .u8 0, .int .u8 0, .int .u8 0, .int .u8 0, .int .u8 0, .int .u8 0, .int .u8 0, .int .u8 0], .agg #[.int .i64 0, .int .i64 0, .string ⟨#[]⟩, .bool false]], []⟩ 8 (by kernel_rfl) (by kernel_rfl) (by kernel_rfl) (by kernel_rfl)) ?_
  intro W base args ds gs before hval hW _ _
  exact contract H enc W base args ds gs before hval hW

set_option maxRecDepth 100000 in
theorem closed : joinedFacts Try.pinned.checked.prog 11 Try.f11 Rows.towerSeesSpec Rows.towerSeesRow = true := by
  unfold joinedFacts; rewrite [enters_may, lifts_none, make_cut]; kernel_rfl

theorem over : Rows.towerSeesRow.holds Try.pinned (OpenSpec.ofChange Rows.towerSeesSpec) :=
  OpenClaim.holds_of_wide 11 Try.f11 rfl rfl rfl rfl rfl rfl rfl ⟨rfl, rfl, rfl, rfl, rfl⟩ rfl rfl rfl rfl rfl (by kernel_rfl) Try.func11 closed
    (of_decide_eq_true (by kernel_rfl)) (by unfold Func.isWrapper; first | (rw [if_pos (by decide +kernel)]; kernel_rfl) | (rw [if_neg (by decide +kernel)]; exact ⟨rfl, rfl⟩))
    (fun os started H enc _ => lifted os started H enc)

theorem proved : Rows.TowerSeesSaid :=
  over
end Go.Proofs.Ytddckbhlfeegoaa.towerSees
