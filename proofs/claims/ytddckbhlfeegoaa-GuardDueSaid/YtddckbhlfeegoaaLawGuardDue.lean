/- GuardDue: for every input the law answers true and each argument reads as it did. No condition. -/
import Derived.Test.YtddckbhlfeegoaaRows
import Derived.Test.YtddckbhlfeegoaaWBorder
import Derived.Test.YtddckbhlfeegoaaEngX
import Derived.Test.YtddckbhlfeegoaaWBlaw52d
import Derived.WalkKit
import Derived.ProofKit
import Derived.OpenShut
import Derived.JoinedCond
import Derived.ChangeMaps5
namespace Go.Proofs.Ytddckbhlfeegoaa.guardDue
open Go Go.Eng Go.ChangeMaps Go.ChangeShapes Go.WideShapes Go.ChangeAt Go.RowKit
set_option linter.unusedVariables false
set_option linter.unusedSimpArgs false

theorem own : ownKnob Try.prog.godebug = none := by kernel_rfl
theorem laid : laidOutB Try.prog = true := by kernel_rfl

set_option maxRecDepth 100000 in
theorem contract (H : Type) (enc : TypeId × Value → H) (W : World) (base : Nat) (args : Array Value) (ds gs : List (DataW H)) (before : List MemPlace)
    (hval : ∀ (j : Nat) t v, Try.f17.params[j]? = some t → args[j]? = some v → Value.okWide Try.prog W .any base t v)
    (hW : DataW.Whole enc Try.prog Try.f17.params.toList Rows.guardDueSpec.vars false W args.toList ds gs before) :
    Calls Try.prog 17 args W fun e W' => ∃ v, e = .returned v ∧ Rows.guardDueSpec.post enc Try.prog Try.f17 false true false false W args v W' := by
  have hW' := hW
  obtain ⟨p, q, hA0, hV, rfl, hfz, hnd⟩ := hW
  have hA : DataW.TrodAll enc Try.prog W 0 (fun _ => true) true Try.f17.params.toList args.toList ds p := hA0
  rw [Try.params17] at hA hval
  obtain ⟨v0, vs0, d0, ds0, p0, q0, hargs, rfl, rfl, h0, r0⟩ := trodAll_cons hA
  obtain ⟨v1, vs1, d1, ds1, p1, q1, rfl, rfl, rfl, h1, r1⟩ := trodAll_cons r0
  obtain ⟨v2, vs2, d2, ds2, p2, q2, rfl, rfl, rfl, h2, r2⟩ := trodAll_cons r1
  obtain ⟨rfl, rfl, rfl⟩ := trodAll_nil r2
  obtain rfl : args = #[v0, v1, v2] := by cases args; simp_all
  obtain ⟨rfl, rfl⟩ := trodVars_none hV
  obtain ⟨x0, y0, rfl, bx0, by0⟩ := open_ints2 (by kernel_rfl : Try.prog.underlying 110 = some (.array 2 3)) (by kernel_rfl) (by kernel_rfl) (by kernel_rfl) (hval 0 110 v0 rfl rfl) h0
  obtain ⟨ba1, n1, c1, x1, rfl, hn1, hc1, hm1, hr1⟩ := open_bools (by kernel_rfl : Try.prog.underlying 55 = some (.slice 4)) (by kernel_rfl) (by kernel_rfl) (hval 1 55 v1 rfl rfl) h1
  obtain ⟨x2, rfl, lo2, hi2⟩ := open_kind (k := .i64) (by kernel_rfl : Try.prog.underlying 3 = _) (hval 2 3 v2 rfl rfl) h2
  refine (guardDue_walk x0 y0 ba1 n1 c1 x1 x2 hn1 W (fun _ h => by cases h) List.nodup_nil hr1).mono fun e W' ⟨v, L', e1, ⟨e2, e3⟩, hi⟩ => ?_
  subst e1; subst e2; subst e3
  exact ⟨_, rfl, post_true laid (by kernel_rfl) rfl (by kernel_rfl) (by kernel_rfl : Try.prog.underlying 4 = some .bool) rfl hW' hi⟩

set_option maxRecDepth 100000 in
theorem lifted (os : Os) (started : os.Started) (H : Type) (enc : TypeId × Value → H) :
    ReturnsInHanded {} Try.checked os 17 .any (Rows.guardDueSpec.pre6 enc Try.prog Try.f17 Rows.guardDueRow.domain false) (Rows.guardDueSpec.post enc Try.prog Try.f17 false true false false) := by
  refine returnsInHanded_of_change (C := Try.checked) own started (by kernel_rfl) Try.func17
    (ChangeSpec.witness6 (enc := enc) (C := Try.checked) false ⟨#[], #[.agg #[.int .i64 0, .int .i64 0], .slice none 0 0, .int .i64 0], []⟩ 8 (by kernel_rfl) (by kernel_rfl) (by kernel_rfl) (by kernel_rfl)) ?_
  intro W base args ds gs before hval hW _ _
  exact contract H enc W base args ds gs before hval hW

set_option maxRecDepth 100000 in
theorem closed : joinedFacts Try.pinned.checked.prog 17 Try.f17 Rows.guardDueSpec Rows.guardDueRow = true := by
  unfold joinedFacts; rewrite [enters_may, lifts_none, make_cut]; kernel_rfl

theorem over : Rows.guardDueRow.holds Try.pinned (OpenSpec.ofChange Rows.guardDueSpec) :=
  OpenClaim.holds_of_wide 17 Try.f17 rfl rfl rfl rfl rfl rfl rfl ⟨rfl, rfl, rfl, rfl, rfl⟩ rfl rfl rfl rfl rfl (by kernel_rfl) Try.func17 closed
    (of_decide_eq_true (by kernel_rfl)) (by unfold Func.isWrapper; first | (rw [if_pos (by decide +kernel)]; kernel_rfl) | (rw [if_neg (by decide +kernel)]; exact ⟨rfl, rfl⟩))
    (fun os started H enc _ => lifted os started H enc)

theorem proved : Rows.GuardDueSaid :=
  over
end Go.Proofs.Ytddckbhlfeegoaa.guardDue
