/-
  Engine, part Td: chapter 37: what is told of one bank.
-/
import Derived.Test.YtddckbhlfeegoaaEngTc
namespace Go.Eng
open Go
set_option linter.unusedVariables false
set_option linter.unusedSimpArgs false
deriving instance DecidableEq for Bo
deriving instance DecidableEq for BS
@[reducible] def k0 : BS := ⟨[5, 5], -1, none⟩
@[reducible] def k1 : BS := ⟨[5, 5], 1, some ⟨0#64, 1, [3, 2], 9, [false, false]⟩⟩
@[reducible] def k2 : BS := ⟨[5, 5], 1, some ⟨0#64, 1, [3, 2], 9, [true, false]⟩⟩
@[reducible] def k3 : BS := ⟨[8, 7], 1, none⟩
@[reducible] def k4 : BS := ⟨[5, 5], 1, none⟩
theorem kn0 : newE 2 [5, 5] = 0 := by decide +kernel
theorem ka : askE k0 7 1 9 [3, 2] = 0 := by decide +kernel
theorem ks : askS k0 7 0#64 1 9 [3, 2] = k1 := by decide +kernel
theorem kp : putE k1 8 0 3 = 0 := by decide +kernel
theorem kps : putS k1 8 0 3 = k2 := by decide +kernel
theorem kq : putE k2 9 1 2 = 0 := by decide +kernel
theorem kqs : putS k2 9 1 2 = k3 := by decide +kernel
theorem kb : backE k2 10 0 = 0 := by decide +kernel
theorem kbv : backV k2 10 0 = 3 := by decide +kernel
theorem kbs : backS k2 10 0 = k4 := by decide +kernel
theorem kh2 : heldS k2 = 13 := by decide +kernel
theorem kh4 : heldS k4 = 10 := by decide +kernel
theorem ok0 : BOk k0 := bok_new (n := 2) rfl kn0
theorem ok1 : BOk k1 := ks ▸ askS_ok ok0
theorem ok2 : BOk k2 := kps ▸ putS_ok ok1
theorem ok3 : BOk k3 := kqs ▸ putS_ok ok2
theorem ok4 : BOk k4 := kbs ▸ backS_ok ok2
theorem clone_perm (p k : Ent) (NS NA NP : List Ent) : List.Perm (p :: k :: (((NS ++ []) ++ NA) ++ NP)) (k :: p :: (NS ++ (NA ++ NP))) := by
  rw [List.append_nil, List.append_assoc]; exact List.Perm.swap _ _ _
theorem kn1 : newE 2 [1, 1] = 0 := by decide +kernel
end Go.Eng
