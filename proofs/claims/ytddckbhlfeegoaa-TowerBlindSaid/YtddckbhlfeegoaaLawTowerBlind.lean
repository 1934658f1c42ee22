/- TowerBlind: for every input the law answers true and each argument reads as it did. No condition. -/
import Derived.Test.YtddckbhlfeegoaaRows
import Derived.Test.YtddckbhlfeegoaaWBorder
import Derived.Test.YtddckbhlfeegoaaEngXa
import Derived.Test.YtddckbhlfeegoaaWBlaw51b
import Derived.WalkKit
import Derived.ProofKit
import Derived.OpenShut
import Derived.JoinedCond
import Derived.ChangeMaps5
namespace Go.Proofs.Ytddckbhlfeegoaa.towerBlind
open Go Go.Eng Go.ChangeMaps Go.ChangeShapes Go.WideShapes Go.ChangeAt Go.RowKit
set_option linter.unusedVariables false
set_option linter.unusedSimpArgs false

theorem own : ownKnob Try.prog.godebug = none := by kernel_rfl
theorem laid : laidOutB Try.prog = true := by kernel_rfl
theorem dg30 : DigT Try.prog 30 := ⟨by kernel_rfl, by kernel_rfl⟩
theorem ce30 : Try.prog.cellsOf 30 = 8 := by kernel_rfl

set_option maxRecDepth 100000 in
theorem contract (H : Type) (enc : TypeId × Value → H) (W : World) (base : Nat) (args : Array Value) (ds gs : List (DataW H)) (before : List MemPlace)
    (hval : ∀ (j : Nat) t v, Try.f14.params[j]? = some t → args[j]? = some v → Value.okWide Try.prog W .any base t v)
    (hW : DataW.Whole enc Try.prog Try.f14.params.toList Rows.towerBlindSpec.vars false W args.toList ds gs before) (hwt : (DataW.weightsEach Try.prog (Try.f14.params.toList ++ Rows.towerBlindSpec.plain.varTypes Try.prog) (ds ++ gs)).all (· ≤ reachBytes) = true) :
    Calls Try.prog 14 args W fun e W' => ∃ v, e = .returned v ∧ Rows.towerBlindSpec.post enc Try.prog Try.f14 false true false false W args v W' := by
  have hW' := hW
  obtain ⟨p, q, hA0, hV, rfl, hfz, hnd⟩ := hW
  have hA : DataW.TrodAll enc Try.prog W 0 (fun _ => true) true Try.f14.params.toList args.toList ds p := hA0
  rw [Try.params14] at hA hval
  obtain ⟨v0, vs0, d0, ds0, p0, q0, hargs, rfl, rfl, h0, r0⟩ := trodAll_cons hA
  obtain ⟨v1, vs1, d1, ds1, p1, q1, rfl, rfl, rfl, h1, r1⟩ := trodAll_cons r0
  obtain ⟨v2, vs2, d2, ds2, p2, q2, rfl, rfl, rfl, h2, r2⟩ := trodAll_cons r1
  obtain ⟨rfl, rfl, rfl⟩ := trodAll_nil r2
  obtain rfl : args = #[v0, v1, v2] := by cases args; simp_all
  obtain ⟨rfl, rfl⟩ := trodVars_none hV
  rw [Try.params14] at hwt
  simp only [List.append_nil, List.all_eq_true, decide_eq_true_eq] at hwt
  have wt := hwt
  obtain ⟨x0, rfl⟩ := open_u8 (by kernel_rfl : Try.prog.underlying 5 = _) (hval 0 5 v0 rfl rfl) h0
  obtain ⟨ba1, n1, c1, x1, rfl, hn1, hc1, hm1, hq1, hr1⟩ := open_sliceQ (f := De.L) (by kernel_rfl : Try.prog.underlying 93 = some (.slice 96)) (by kernel_rfl) (Nat.le_of_ble_eq_true (by kernel_rfl)) de_len (fun n cs x h _ => trod_deed (by kernel_rfl : fieldAt Try.prog 96 0 = some (4, 0)) (by kernel_rfl : fieldAt Try.prog 96 1 = some (4, 1)) (by kernel_rfl : fieldAt Try.prog 96 2 = some (30, 2)) (by kernel_rfl : fieldAt Try.prog 96 3 = some (3, 10)) (by kernel_rfl : fieldAt Try.prog 96 4 = some (9, 11)) (by kernel_rfl) (by kernel_rfl) (by kernel_rfl) (by kernel_rfl) (by kernel_rfl) (by kernel_rfl) (by kernel_rfl) (by kernel_rfl) dg30 (by kernel_rfl) (by kernel_rfl) h) (hval 1 93 v1 rfl rfl) h1 (fun m hm => wt m (DataW.weights_mem_each (j := 1) rfl rfl m hm))
  obtain ⟨ba2, n2, c2, x2, rfl, hn2, hc2, hm2, hr2⟩ := open_bytesW (by kernel_rfl : Try.prog.underlying 54 = some (.slice 5)) (by kernel_rfl) (by kernel_rfl) (Nat.le_of_ble_eq_true (by kernel_rfl)) (hval 2 54 v2 rfl rfl) h2 (fun m hm => wt m (DataW.weights_mem_each (j := 2) rfl rfl m hm))
  refine (towerBlind_walk x0 ba1 n1 c1 x1 hn1 hm1 ba2 n2 c2 x2 hn2 W (fun _ h => by cases h) List.nodup_nil ⟨hr1, hr2⟩).mono fun e W' ⟨v, L', e1, ⟨e2, e3⟩, hi⟩ => ?_
  subst e1; subst e2; subst e3
  exact ⟨_, rfl, post_true laid (by kernel_rfl) rfl (by kernel_rfl) (by kernel_rfl : Try.prog.underlying 4 = some .bool) rfl hW' hi⟩

set_option maxRecDepth 100000 in
theorem lifted (os : Os) (started : os.Started) (H : Type) (enc : TypeId × Value → H) :
    ReturnsInHanded {} Try.checked os 14 .any (Rows.towerBlindSpec.pre6 enc Try.prog Try.f14 Rows.towerBlindRow.domain false) (Rows.towerBlindSpec.post enc Try.prog Try.f14 false true false false) := by
  refine sized_change (C := Try.checked) own started (by kernel_rfl) Try.func14
    (ChangeSpec.witness6 (enc := enc) (C := Try.checked) false ⟨#[], #[.int .u8 0, .slice none 0 0, .slice none 0 0], []⟩ 8 (by kernel_rfl) (by kernel_rfl) (by kernel_rfl) (by kernel_rfl)) ?_
  intro W base args ds gs before hval hW hwt
  exact contract H enc W base args ds gs before hval hW hwt

set_option maxRecDepth 100000 in
theorem closed : joinedFacts Try.pinned.checked.prog 14 Try.f14 Rows.towerBlindSpec Rows.towerBlindRow = true := by
  unfold joinedFacts; rewrite [enters_may, lifts_none, make_cut]; kernel_rfl

theorem over : Rows.towerBlindRow.holds Try.pinned (OpenSpec.ofChange Rows.towerBlindSpec) :=
  OpenClaim.holds_of_wide 14 Try.f14 rfl rfl rfl rfl rfl rfl rfl ⟨rfl, rfl, rfl, rfl, rfl⟩ rfl rfl rfl rfl rfl (by kernel_rfl) Try.func14 closed
    (of_decide_eq_true (by kernel_rfl)) (by unfold Func.isWrapper; first | (rw [if_pos (by decide +kernel)]; kernel_rfl) | (rw [if_neg (by decide +kernel)]; exact ⟨rfl, rfl⟩))
    (fun os started H enc _ => lifted os started H enc)

theorem proved : Rows.TowerBlindSaid :=
  over
end Go.Proofs.Ytddckbhlfeegoaa.towerBlind
