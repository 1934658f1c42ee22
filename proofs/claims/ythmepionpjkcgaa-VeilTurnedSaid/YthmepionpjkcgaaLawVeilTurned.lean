/- VeilTurned: for every input the law answers true and each argument reads as it did. No condition. -/
import Derived.Test.YthmepionpjkcgaaRows
import Derived.Test.YthmepionpjkcgaaWAorder
import Derived.Test.YthmepionpjkcgaaEngX
import Derived.Test.YthmepionpjkcgaaWAlaw08
import Derived.WalkKit
import Derived.ProofKit
import Derived.OpenShut
import Derived.JoinedCond
import Derived.ChangeMaps5
namespace Go.Proofs.Ythmepionpjkcgaa.veilTurned
open Go Go.Eng Go.ChangeMaps Go.ChangeShapes Go.WideShapes Go.ChangeAt Go.RowKit
set_option linter.unusedVariables false
set_option linter.unusedSimpArgs false

theorem own : ownKnob Try.prog.godebug = none := by kernel_rfl
theorem laid : laidOutB Try.prog = true := by kernel_rfl
theorem dg24 : DigT Try.prog 24 := ⟨by kernel_rfl, by kernel_rfl⟩
theorem ce24 : Try.prog.cellsOf 24 = 8 := by kernel_rfl

set_option maxRecDepth 100000 in
theorem contract (H : Type) (enc : TypeId × Value → H) (W : World) (base : Nat) (args : Array Value) (ds gs : List (DataW H)) (before : List MemPlace)
    (hval : ∀ (j : Nat) t v, Try.f24.params[j]? = some t → args[j]? = some v → Value.okWide Try.prog W .any base t v)
    (hW : DataW.Whole enc Try.prog Try.f24.params.toList Rows.veilTurnedSpec.vars false W args.toList ds gs before) :
    Calls Try.prog 24 args W fun e W' => ∃ v, e = .returned v ∧ Rows.veilTurnedSpec.post enc Try.prog Try.f24 false true false false W args v W' := by
  have hW' := hW
  obtain ⟨p, q, hA0, hV, rfl, hfz, hnd⟩ := hW
  have hA : DataW.TrodAll enc Try.prog W 0 (fun _ => true) true Try.f24.params.toList args.toList ds p := hA0
  rw [Try.params24] at hA hval
  obtain ⟨v0, vs0, d0, ds0, p0, q0, hargs, rfl, rfl, h0, r0⟩ := trodAll_cons hA
  obtain ⟨v1, vs1, d1, ds1, p1, q1, rfl, rfl, rfl, h1, r1⟩ := trodAll_cons r0
  obtain ⟨v2, vs2, d2, ds2, p2, q2, rfl, rfl, rfl, h2, r2⟩ := trodAll_cons r1
  obtain ⟨rfl, rfl, rfl⟩ := trodAll_nil r2
  obtain rfl : args = #[v0, v1, v2] := by cases args; simp_all
  obtain ⟨rfl, rfl⟩ := trodVars_none hV
  obtain ⟨x0, rfl⟩ := open_dig dg24 ce24 (hval 0 24 v0 rfl rfl) h0
  obtain ⟨ba1, n1, c1, x1, rfl, hn1, hc1, hm1, hr1⟩ := open_bytes (by kernel_rfl : Try.prog.underlying 37 = some (.slice 5)) (by kernel_rfl) (by kernel_rfl) (hval 1 37 v1 rfl rfl) h1
  obtain ⟨x2, y2, rfl, bx2, by2⟩ := open_ints2 (by kernel_rfl : Try.prog.underlying 100 = some (.array 2 3)) (by kernel_rfl) (by kernel_rfl) (by kernel_rfl) (hval 2 100 v2 rfl rfl) h2
  refine (veilTurned_walk x0 ba1 n1 c1 x1 hn1 hc1 x2 y2 W (fun _ h => by cases h) List.nodup_nil hr1).mono fun e W' ⟨v, L', e1, ⟨e2, e3⟩, hi⟩ => ?_
  subst e1; subst e2; subst e3
  exact ⟨_, rfl, post_true laid (by kernel_rfl) rfl (by kernel_rfl) (by kernel_rfl : Try.prog.underlying 4 = some .bool) rfl hW' hi⟩

set_option maxRecDepth 100000 in
theorem lifted (os : Os) (started : os.Started) (H : Type) (enc : TypeId × Value → H) :
    ReturnsInHanded {} Try.checked os 24 .any (Rows.veilTurnedSpec.pre6 enc Try.prog Try.f24 Rows.veilTurnedRow.domain false) (Rows.veilTurnedSpec.post enc Try.prog Try.f24 false true false false) := by
  refine returnsInHanded_of_change (C := Try.checked) own started (by kernel_rfl) Try.func24
    (ChangeSpec.witness6 (enc := enc) (C := Try.checked) false ⟨#[], #[.agg #[.int .u8 0, .int .u8 0, .int .u8 0, .int .u8 0, .int .u8 0, .int .u8 0, .int .u8 0, .int .u8 0], .slice none 0 0, .agg #[.int .i64 0, .int .i64 0]], []⟩ 8 (by kernel_rfl) (by kernel_rfl) (by kernel_rfl) (by kernel_rfl)) ?_
  intro W base args ds gs before hval hW _ _
  exact contract H enc W base args ds gs before hval hW

set_option maxRecDepth 100000 in
theorem closed : joinedFacts Try.pinned.checked.prog 24 Try.f24 Rows.veilTurnedSpec Rows.veilTurnedRow = true := by
  unfold joinedFacts; rewrite [enters_may, lifts_none, make_cut]; kernel_rfl

theorem over : Rows.veilTurnedRow.holds Try.pinned (OpenSpec.ofChange Rows.veilTurnedSpec) :=
  OpenClaim.holds_of_wide 24 Try.f24 rfl rfl rfl rfl rfl rfl rfl ⟨rfl, rfl, rfl, rfl, rfl⟩ rfl rfl rfl rfl rfl (by kernel_rfl) Try.func24 closed
    (of_decide_eq_true (by kernel_rfl)) (by unfold Func.isWrapper; first | (rw [if_pos (by decide +kernel)]; kernel_rfl) | (rw [if_neg (by decide +kernel)]; exact ⟨rfl, rfl⟩))
    (fun os started H enc _ => lifted os started H enc)

theorem proved : Rows.VeilTurnedSaid :=
  over
end Go.Proofs.Ythmepionpjkcgaa.veilTurned
