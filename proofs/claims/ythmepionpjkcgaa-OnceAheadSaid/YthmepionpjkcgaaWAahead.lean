/- The walk of functions of the program: what each computes, for every input. -/
import Derived.Test.YthmepionpjkcgaaWAFacts
import Derived.Test.YthmepionpjkcgaaWAlaw05
namespace Go.Proofs.Ythmepionpjkcgaa
open Go Go.Eng
set_option linter.unusedVariables false
set_option linter.unusedSimpArgs false

set_option maxRecDepth 8000 in
/-- baize/once.Ahead -/
theorem ahead_spec (a b : BitVec 64) : Pure Try.prog 74 ([Dig a, Dig b]).toArray (fun _ => True) (I64 (aheadI a b)) := by
  refine spec_walk (n := 30) Try.func74 rfl rfl rfl (fun w0 hpre => ?_)
  refine gc_seq ?_
  refine gc_region ?_
  refine gl_cons (gs_box rfl rfl rfl rfl (fun b2 => ?_))
  refine gl_cons (gs_box rfl rfl rfl rfl (fun b3 => ?_))
  refine gl_cons (gs_val (val_assign rfl) rfl rfl rfl ?_)
  refine gl_nil ?_
  refine gk_seq ?_
  refine gc_scope ?_
  refine gc_seq ?_
  refine ga_start (m := 8) (ls := [false, false, false, false, false, false, false, false]) kmixed rfl rfl ?_
  apply share2 (α := Nat) (β := Nat) (m' := 2) (ls' := [true, true, true, true, true, true, false, false])
  · intro hD0
    apply share1 (α := Nat) (m' := 3) (ls' := [true, true, true, true, true, false, false, false])
    · intro hD1
      apply share1 (α := Nat) (m' := 3) (ls' := [true, true, true, true, false, true, false, false])
      · intro hD2
        apply share2 (α := Nat) (β := Nat) (m' := 3) (ls' := [true, true, true, false, true, true, false, false])
        · intro hD3
          apply share1 (α := Nat) (m' := 4) (ls' := [true, true, true, false, true, false, false, false])
          · intro hD4
            apply share1 (α := Nat) (m' := 4) (ls' := [true, true, true, false, false, true, false, false])
            · intro hD5
              apply share2 (α := Nat) (β := Nat) (m' := 4) (ls' := [true, true, false, false, true, true, false, false])
              · intro hD6
                apply share2 (α := Nat) (β := Nat) (m' := 4) (ls' := [true, false, true, false, true, true, false, false])
                · intro hD7
                  apply share0  (m' := 5) (ls' := [true, true, true, false, false, false, false, false])
                  · intro hD8
                    apply share1 (α := Nat) (m' := 5) (ls' := [true, true, false, false, true, false, false, false])
                    · intro hD9
                      apply share1 (α := Nat) (m' := 5) (ls' := [true, true, false, false, false, true, false, false])
                      · intro hD10
                        apply share1 (α := Nat) (m' := 5) (ls' := [true, false, true, false, true, false, false, false])
                        · intro hD11
                          apply share1 (α := Nat) (m' := 5) (ls' := [true, false, true, false, false, true, false, false])
                          · intro hD12
                            apply share2 (α := Nat) (β := Nat) (m' := 5) (ls' := [true, false, false, false, true, true, false, false])
                            · intro hD13
                              apply share2 (α := Nat) (β := Nat) (m' := 5) (ls' := [false, false, true, false, true, true, false, false])
                              · intro hD14
                                apply share0  (m' := 6) (ls' := [true, false, true, false, false, false, false, false])
                                · intro hD15
                                  apply share1 (α := Nat) (m' := 6) (ls' := [true, false, false, false, true, false, false, false])
                                  · intro hD16
                                    apply share1 (α := Nat) (m' := 6) (ls' := [true, false, false, false, false, true, false, false])
                                    · intro hD17
                                      apply share1 (α := Nat) (m' := 6) (ls' := [false, false, true, false, true, false, false, false])
                                      · intro hD18
                                        apply share1 (α := Nat) (m' := 6) (ls' := [false, false, true, false, false, true, false, false])
                                        · intro hD19
                                          apply share2 (α := Nat) (β := Nat) (m' := 6) (ls' := [false, false, false, false, true, true, false, false])
                                          · intro hD20
                                            refine ga_branch (rs := [0, 2, 4, 5]) (by kernel_rfl) rfl (.cons (ls' := [true, false, false, false, false, false, false, false]) rfl rfl ?_ (.cons (ls' := [false, false, true, false, false, false, false, false]) rfl rfl ?_ (.cons (ls' := [false, false, false, false, true, false, false, false]) rfl rfl ?_ (.cons (ls' := [false, false, false, false, false, true, false, false]) rfl rfl ?_ .nil))))
                                            · skip
                                              refine gs_val (val_loadA kag24 rfl (sees_mem (by repeat (first | exact .head _ | refine .tail _ ?_ | refine List.mem_append_right _ ?_))) rfl rfl) rfl rfl rfl ?_
                                              refine ga_branch (rs := [1, 2, 4, 5]) (by kernel_rfl) rfl (.cons (ls' := [true, true, false, false, false, false, false, false]) rfl rfl ?_ (.cons (ls' := [true, false, true, false, false, false, false, false]) rfl rfl ?_ (.cons (ls' := [true, false, false, false, true, false, false, false]) rfl rfl ?_ (.cons (ls' := [true, false, false, false, false, true, false, false]) rfl rfl ?_ .nil))))
                                              · skip
                                                refine gs_pure (enters kcall66 (.cons rfl .nil)) (reach_spec a) rfl rfl rfl (fun _ _ => trivial) ?_
                                                refine ga_branch (rs := [2, 4, 5]) (by kernel_rfl) rfl (.cons (ls' := [true, true, true, false, false, false, false, false]) rfl rfl ?_ (.cons (ls' := [true, true, false, false, true, false, false, false]) rfl rfl ?_ (.cons (ls' := [true, true, false, false, false, true, false, false]) rfl rfl ?_ .nil)))
                                                · skip
                                                  refine gs_val (val_loadA kag24 rfl (sees_mem (by repeat (first | exact .head _ | refine .tail _ ?_ | refine List.mem_append_right _ ?_))) rfl rfl) rfl rfl rfl ?_
                                                  refine gx_env (F := [(0, _), (1, _), (2, _), (3, _), (4, _), (9, _), (10, _), (11, _)]) (.cons rfl (.cons rfl (.cons rfl (.cons rfl (.cons rfl (.cons rfl (.cons rfl (.cons rfl .nil)))))))) (gx_perm (by first | exact .refl _ | (repeat (first | exact .refl _ | refine perm_take (by first | exact .head | exact .tail .head | exact .tail (.tail .head) | exact .tail (.tail (.tail .head)) | exact .tail (.tail (.tail (.tail .head))) | exact .tail (.tail (.tail (.tail (.tail .head))))) ?_))) (hD8  True.intro))
                                                · skip
                                                  refine gs_alloc kze66 rfl rfl rfl (fun b5 => ?_)
                                                  refine gx_env (F := [(0, _), (1, _), (2, _), (3, _), (4, _), (5, _), (9, _), (10, _)]) (.cons rfl (.cons rfl (.cons rfl (.cons rfl (.cons rfl (.cons rfl (.cons rfl (.cons rfl .nil)))))))) (gx_perm (by first | exact .refl _ | (repeat (first | exact .refl _ | refine perm_take (by first | exact .head | exact .tail .head | exact .tail (.tail .head) | exact .tail (.tail (.tail .head)) | exact .tail (.tail (.tail (.tail .head))) | exact .tail (.tail (.tail (.tail (.tail .head))))) ?_))) (hD9 b5 True.intro))
                                                · skip
                                                  refine gs_alloc kze66 rfl rfl rfl (fun b6 => ?_)
                                                  refine gx_env (F := [(0, _), (1, _), (2, _), (3, _), (4, _), (6, _), (9, _), (10, _)]) (.cons rfl (.cons rfl (.cons rfl (.cons rfl (.cons rfl (.cons rfl (.cons rfl (.cons rfl .nil)))))))) (gx_perm (by first | exact .refl _ | (repeat (first | exact .refl _ | refine perm_take (by first | exact .head | exact .tail .head | exact .tail (.tail .head) | exact .tail (.tail (.tail .head)) | exact .tail (.tail (.tail (.tail .head))) | exact .tail (.tail (.tail (.tail (.tail .head))))) ?_))) (hD10 b6 True.intro))
                                              · skip
                                                refine gs_val (val_loadA kag24 rfl (sees_mem (by repeat (first | exact .head _ | refine .tail _ ?_ | refine List.mem_append_right _ ?_))) rfl rfl) rfl rfl rfl ?_
                                                refine gx_env (F := [(0, _), (1, _), (2, _), (3, _), (4, _), (9, _), (11, _)]) (.cons rfl (.cons rfl (.cons rfl (.cons rfl (.cons rfl (.cons rfl (.cons rfl .nil))))))) (gx_perm (by first | exact .refl _ | (repeat (first | exact .refl _ | refine perm_take (by first | exact .head | exact .tail .head | exact .tail (.tail .head) | exact .tail (.tail (.tail .head)) | exact .tail (.tail (.tail (.tail .head))) | exact .tail (.tail (.tail (.tail (.tail .head))))) ?_))) (hD15  True.intro))
                                              · skip
                                                refine gs_alloc kze66 rfl rfl rfl (fun b5 => ?_)
                                                refine gx_env (F := [(0, _), (1, _), (2, _), (3, _), (4, _), (5, _), (9, _)]) (.cons rfl (.cons rfl (.cons rfl (.cons rfl (.cons rfl (.cons rfl (.cons rfl .nil))))))) (gx_perm (by first | exact .refl _ | (repeat (first | exact .refl _ | refine perm_take (by first | exact .head | exact .tail .head | exact .tail (.tail .head) | exact .tail (.tail (.tail .head)) | exact .tail (.tail (.tail (.tail .head))) | exact .tail (.tail (.tail (.tail (.tail .head))))) ?_))) (hD16 b5 True.intro))
                                              · skip
                                                refine gs_alloc kze66 rfl rfl rfl (fun b6 => ?_)
                                                refine gx_env (F := [(0, _), (1, _), (2, _), (3, _), (4, _), (6, _), (9, _)]) (.cons rfl (.cons rfl (.cons rfl (.cons rfl (.cons rfl (.cons rfl (.cons rfl .nil))))))) (gx_perm (by first | exact .refl _ | (repeat (first | exact .refl _ | refine perm_take (by first | exact .head | exact .tail .head | exact .tail (.tail .head) | exact .tail (.tail (.tail .head)) | exact .tail (.tail (.tail (.tail .head))) | exact .tail (.tail (.tail (.tail (.tail .head))))) ?_))) (hD17 b6 True.intro))
                                            · skip
                                              refine gs_val (val_loadA kag24 rfl (sees_mem (by repeat (first | exact .head _ | refine .tail _ ?_ | refine List.mem_append_right _ ?_))) rfl rfl) rfl rfl rfl ?_
                                              refine ga_branch (rs := [0, 4, 5]) (by kernel_rfl) rfl (.cons (ls' := [true, false, true, false, false, false, false, false]) rfl rfl ?_ (.cons (ls' := [false, false, true, false, true, false, false, false]) rfl rfl ?_ (.cons (ls' := [false, false, true, false, false, true, false, false]) rfl rfl ?_ .nil)))
                                              · skip
                                                refine gs_val (val_loadA kag24 rfl (sees_mem (by repeat (first | exact .head _ | refine .tail _ ?_ | refine List.mem_append_right _ ?_))) rfl rfl) rfl rfl rfl ?_
                                                refine gx_env (F := [(0, _), (1, _), (2, _), (3, _), (4, _), (9, _), (11, _)]) (.cons rfl (.cons rfl (.cons rfl (.cons rfl (.cons rfl (.cons rfl (.cons rfl .nil))))))) (gx_perm (by first | exact .refl _ | (repeat (first | exact .refl _ | refine perm_take (by first | exact .head | exact .tail .head | exact .tail (.tail .head) | exact .tail (.tail (.tail .head)) | exact .tail (.tail (.tail (.tail .head))) | exact .tail (.tail (.tail (.tail (.tail .head))))) ?_))) (hD15  True.intro))
                                              · skip
                                                refine gs_alloc kze66 rfl rfl rfl (fun b5 => ?_)
                                                refine gx_env (F := [(0, _), (1, _), (2, _), (3, _), (4, _), (5, _), (11, _)]) (.cons rfl (.cons rfl (.cons rfl (.cons rfl (.cons rfl (.cons rfl (.cons rfl .nil))))))) (gx_perm (by first | exact .refl _ | (repeat (first | exact .refl _ | refine perm_take (by first | exact .head | exact .tail .head | exact .tail (.tail .head) | exact .tail (.tail (.tail .head)) | exact .tail (.tail (.tail (.tail .head))) | exact .tail (.tail (.tail (.tail (.tail .head))))) ?_))) (hD18 b5 True.intro))
                                              · skip
                                                refine gs_alloc kze66 rfl rfl rfl (fun b6 => ?_)
                                                refine gx_env (F := [(0, _), (1, _), (2, _), (3, _), (4, _), (6, _), (11, _)]) (.cons rfl (.cons rfl (.cons rfl (.cons rfl (.cons rfl (.cons rfl (.cons rfl .nil))))))) (gx_perm (by first | exact .refl _ | (repeat (first | exact .refl _ | refine perm_take (by first | exact .head | exact .tail .head | exact .tail (.tail .head) | exact .tail (.tail (.tail .head)) | exact .tail (.tail (.tail (.tail .head))) | exact .tail (.tail (.tail (.tail (.tail .head))))) ?_))) (hD19 b6 True.intro))
                                            · skip
                                              refine gs_alloc kze66 rfl rfl rfl (fun b5 => ?_)
                                              refine ga_branch (rs := [0, 2, 5]) (by kernel_rfl) rfl (.cons (ls' := [true, false, false, false, true, false, false, false]) rfl rfl ?_ (.cons (ls' := [false, false, true, false, true, false, false, false]) rfl rfl ?_ (.cons (ls' := [false, false, false, false, true, true, false, false]) rfl rfl ?_ .nil)))
                                              · skip
                                                refine gs_val (val_loadA kag24 rfl (sees_mem (by repeat (first | exact .head _ | refine .tail _ ?_ | refine List.mem_append_right _ ?_))) rfl rfl) rfl rfl rfl ?_
                                                refine gx_env (F := [(0, _), (1, _), (2, _), (3, _), (4, _), (5, _), (9, _)]) (.cons rfl (.cons rfl (.cons rfl (.cons rfl (.cons rfl (.cons rfl (.cons rfl .nil))))))) (gx_perm (by first | exact .refl _ | (repeat (first | exact .refl _ | refine perm_take (by first | exact .head | exact .tail .head | exact .tail (.tail .head) | exact .tail (.tail (.tail .head)) | exact .tail (.tail (.tail (.tail .head))) | exact .tail (.tail (.tail (.tail (.tail .head))))) ?_))) (hD16 b5 True.intro))
                                              · skip
                                                refine gs_val (val_loadA kag24 rfl (sees_mem (by repeat (first | exact .head _ | refine .tail _ ?_ | refine List.mem_append_right _ ?_))) rfl rfl) rfl rfl rfl ?_
                                                refine gx_env (F := [(0, _), (1, _), (2, _), (3, _), (4, _), (5, _), (11, _)]) (.cons rfl (.cons rfl (.cons rfl (.cons rfl (.cons rfl (.cons rfl (.cons rfl .nil))))))) (gx_perm (by first | exact .refl _ | (repeat (first | exact .refl _ | refine perm_take (by first | exact .head | exact .tail .head | exact .tail (.tail .head) | exact .tail (.tail (.tail .head)) | exact .tail (.tail (.tail (.tail .head))) | exact .tail (.tail (.tail (.tail (.tail .head))))) ?_))) (hD18 b5 True.intro))
                                              · skip
                                                refine gs_alloc kze66 rfl rfl rfl (fun b6 => ?_)
                                                refine gx_env (F := [(0, _), (1, _), (2, _), (3, _), (4, _), (5, _), (6, _)]) (.cons rfl (.cons rfl (.cons rfl (.cons rfl (.cons rfl (.cons rfl (.cons rfl .nil))))))) (gx_perm (by first | exact .refl _ | (repeat (first | exact .refl _ | refine perm_take (by first | exact .head | exact .tail .head | exact .tail (.tail .head) | exact .tail (.tail (.tail .head)) | exact .tail (.tail (.tail (.tail .head))) | exact .tail (.tail (.tail (.tail (.tail .head))))) ?_))) (hD20 b5 b6 True.intro))
                                            · skip
                                              refine gs_alloc kze66 rfl rfl rfl (fun b6 => ?_)
                                              refine ga_branch (rs := [0, 2, 4]) (by kernel_rfl) rfl (.cons (ls' := [true, false, false, false, false, true, false, false]) rfl rfl ?_ (.cons (ls' := [false, false, true, false, false, true, false, false]) rfl rfl ?_ (.cons (ls' := [false, false, false, false, true, true, false, false]) rfl rfl ?_ .nil)))
                                              · skip
                                                refine gs_val (val_loadA kag24 rfl (sees_mem (by repeat (first | exact .head _ | refine .tail _ ?_ | refine List.mem_append_right _ ?_))) rfl rfl) rfl rfl rfl ?_
                                                refine gx_env (F := [(0, _), (1, _), (2, _), (3, _), (4, _), (6, _), (9, _)]) (.cons rfl (.cons rfl (.cons rfl (.cons rfl (.cons rfl (.cons rfl (.cons rfl .nil))))))) (gx_perm (by first | exact .refl _ | (repeat (first | exact .refl _ | refine perm_take (by first | exact .head | exact .tail .head | exact .tail (.tail .head) | exact .tail (.tail (.tail .head)) | exact .tail (.tail (.tail (.tail .head))) | exact .tail (.tail (.tail (.tail (.tail .head))))) ?_))) (hD17 b6 True.intro))
                                              · skip
                                                refine gs_val (val_loadA kag24 rfl (sees_mem (by repeat (first | exact .head _ | refine .tail _ ?_ | refine List.mem_append_right _ ?_))) rfl rfl) rfl rfl rfl ?_
                                                refine gx_env (F := [(0, _), (1, _), (2, _), (3, _), (4, _), (6, _), (11, _)]) (.cons rfl (.cons rfl (.cons rfl (.cons rfl (.cons rfl (.cons rfl (.cons rfl .nil))))))) (gx_perm (by first | exact .refl _ | (repeat (first | exact .refl _ | refine perm_take (by first | exact .head | exact .tail .head | exact .tail (.tail .head) | exact .tail (.tail (.tail .head)) | exact .tail (.tail (.tail (.tail .head))) | exact .tail (.tail (.tail (.tail (.tail .head))))) ?_))) (hD19 b6 True.intro))
                                              · skip
                                                refine gs_alloc kze66 rfl rfl rfl (fun b5 => ?_)
                                                refine gx_env (F := [(0, _), (1, _), (2, _), (3, _), (4, _), (5, _), (6, _)]) (.cons rfl (.cons rfl (.cons rfl (.cons rfl (.cons rfl (.cons rfl (.cons rfl .nil))))))) (gx_perm (by first | exact .refl _ | (repeat (first | exact .refl _ | refine perm_take (by first | exact .head | exact .tail .head | exact .tail (.tail .head) | exact .tail (.tail (.tail .head)) | exact .tail (.tail (.tail (.tail .head))) | exact .tail (.tail (.tail (.tail (.tail .head))))) ?_))) (hD20 b5 b6 True.intro))
                                          · rintro b5 b6 _
                                            refine ga_branch (rs := [0, 2]) (by kernel_rfl) rfl (.cons (ls' := [true, false, false, false, true, true, false, false]) rfl rfl ?_ (.cons (ls' := [false, false, true, false, true, true, false, false]) rfl rfl ?_ .nil))
                                            · skip
                                              refine gs_val (val_loadA kag24 rfl (sees_mem (by repeat (first | exact .head _ | refine .tail _ ?_ | refine List.mem_append_right _ ?_))) rfl rfl) rfl rfl rfl ?_
                                              refine gx_env (F := [(0, _), (1, _), (2, _), (3, _), (4, _), (5, _), (6, _), (9, _)]) (.cons rfl (.cons rfl (.cons rfl (.cons rfl (.cons rfl (.cons rfl (.cons rfl (.cons rfl .nil)))))))) (gx_perm (by first | exact .refl _ | (repeat (first | exact .refl _ | refine perm_take (by first | exact .head | exact .tail .head | exact .tail (.tail .head) | exact .tail (.tail (.tail .head)) | exact .tail (.tail (.tail (.tail .head))) | exact .tail (.tail (.tail (.tail (.tail .head))))) ?_))) (hD13 b5 b6 True.intro))
                                            · skip
                                              refine gs_val (val_loadA kag24 rfl (sees_mem (by repeat (first | exact .head _ | refine .tail _ ?_ | refine List.mem_append_right _ ?_))) rfl rfl) rfl rfl rfl ?_
                                              refine gx_env (F := [(0, _), (1, _), (2, _), (3, _), (4, _), (5, _), (6, _), (11, _)]) (.cons rfl (.cons rfl (.cons rfl (.cons rfl (.cons rfl (.cons rfl (.cons rfl (.cons rfl .nil)))))))) (gx_perm (by first | exact .refl _ | (repeat (first | exact .refl _ | refine perm_take (by first | exact .head | exact .tail .head | exact .tail (.tail .head) | exact .tail (.tail (.tail .head)) | exact .tail (.tail (.tail (.tail .head))) | exact .tail (.tail (.tail (.tail (.tail .head))))) ?_))) (hD14 b5 b6 True.intro))
                                        · rintro b6 _
                                          refine ga_branch (rs := [0, 4]) (by kernel_rfl) rfl (.cons (ls' := [true, false, true, false, false, true, false, false]) rfl rfl ?_ (.cons (ls' := [false, false, true, false, true, true, false, false]) rfl rfl ?_ .nil))
                                          · skip
                                            refine gs_val (val_loadA kag24 rfl (sees_mem (by repeat (first | exact .head _ | refine .tail _ ?_ | refine List.mem_append_right _ ?_))) rfl rfl) rfl rfl rfl ?_
                                            refine gx_env (F := [(0, _), (1, _), (2, _), (3, _), (4, _), (6, _), (9, _), (11, _)]) (.cons rfl (.cons rfl (.cons rfl (.cons rfl (.cons rfl (.cons rfl (.cons rfl (.cons rfl .nil)))))))) (gx_perm (by first | exact .refl _ | (repeat (first | exact .refl _ | refine perm_take (by first | exact .head | exact .tail .head | exact .tail (.tail .head) | exact .tail (.tail (.tail .head)) | exact .tail (.tail (.tail (.tail .head))) | exact .tail (.tail (.tail (.tail (.tail .head))))) ?_))) (hD12 b6 True.intro))
                                          · skip
                                            refine gs_alloc kze66 rfl rfl rfl (fun b5 => ?_)
                                            refine gx_env (F := [(0, _), (1, _), (2, _), (3, _), (4, _), (5, _), (6, _), (11, _)]) (.cons rfl (.cons rfl (.cons rfl (.cons rfl (.cons rfl (.cons rfl (.cons rfl (.cons rfl .nil)))))))) (gx_perm (by first | exact .refl _ | (repeat (first | exact .refl _ | refine perm_take (by first | exact .head | exact .tail .head | exact .tail (.tail .head) | exact .tail (.tail (.tail .head)) | exact .tail (.tail (.tail (.tail .head))) | exact .tail (.tail (.tail (.tail (.tail .head))))) ?_))) (hD14 b5 b6 True.intro))
                                      · rintro b5 _
                                        refine ga_branch (rs := [0, 5]) (by kernel_rfl) rfl (.cons (ls' := [true, false, true, false, true, false, false, false]) rfl rfl ?_ (.cons (ls' := [false, false, true, false, true, true, false, false]) rfl rfl ?_ .nil))
                                        · skip
                                          refine gs_val (val_loadA kag24 rfl (sees_mem (by repeat (first | exact .head _ | refine .tail _ ?_ | refine List.mem_append_right _ ?_))) rfl rfl) rfl rfl rfl ?_
                                          refine gx_env (F := [(0, _), (1, _), (2, _), (3, _), (4, _), (5, _), (9, _), (11, _)]) (.cons rfl (.cons rfl (.cons rfl (.cons rfl (.cons rfl (.cons rfl (.cons rfl (.cons rfl .nil)))))))) (gx_perm (by first | exact .refl _ | (repeat (first | exact .refl _ | refine perm_take (by first | exact .head | exact .tail .head | exact .tail (.tail .head) | exact .tail (.tail (.tail .head)) | exact .tail (.tail (.tail (.tail .head))) | exact .tail (.tail (.tail (.tail (.tail .head))))) ?_))) (hD11 b5 True.intro))
                                        · skip
                                          refine gs_alloc kze66 rfl rfl rfl (fun b6 => ?_)
                                          refine gx_env (F := [(0, _), (1, _), (2, _), (3, _), (4, _), (5, _), (6, _), (11, _)]) (.cons rfl (.cons rfl (.cons rfl (.cons rfl (.cons rfl (.cons rfl (.cons rfl (.cons rfl .nil)))))))) (gx_perm (by first | exact .refl _ | (repeat (first | exact .refl _ | refine perm_take (by first | exact .head | exact .tail .head | exact .tail (.tail .head) | exact .tail (.tail (.tail .head)) | exact .tail (.tail (.tail (.tail .head))) | exact .tail (.tail (.tail (.tail (.tail .head))))) ?_))) (hD14 b5 b6 True.intro))
                                    · rintro b6 _
                                      refine ga_branch (rs := [1, 2, 4]) (by kernel_rfl) rfl (.cons (ls' := [true, true, false, false, false, true, false, false]) rfl rfl ?_ (.cons (ls' := [true, false, true, false, false, true, false, false]) rfl rfl ?_ (.cons (ls' := [true, false, false, false, true, true, false, false]) rfl rfl ?_ .nil)))
                                      · skip
                                        refine gs_pure (enters kcall66 (.cons rfl .nil)) (reach_spec a) rfl rfl rfl (fun _ _ => trivial) ?_
                                        refine gx_env (F := [(0, _), (1, _), (2, _), (3, _), (4, _), (6, _), (9, _), (10, _)]) (.cons rfl (.cons rfl (.cons rfl (.cons rfl (.cons rfl (.cons rfl (.cons rfl (.cons rfl .nil)))))))) (gx_perm (by first | exact .refl _ | (repeat (first | exact .refl _ | refine perm_take (by first | exact .head | exact .tail .head | exact .tail (.tail .head) | exact .tail (.tail (.tail .head)) | exact .tail (.tail (.tail (.tail .head))) | exact .tail (.tail (.tail (.tail (.tail .head))))) ?_))) (hD10 b6 True.intro))
                                      · skip
                                        refine gs_val (val_loadA kag24 rfl (sees_mem (by repeat (first | exact .head _ | refine .tail _ ?_ | refine List.mem_append_right _ ?_))) rfl rfl) rfl rfl rfl ?_
                                        refine gx_env (F := [(0, _), (1, _), (2, _), (3, _), (4, _), (6, _), (9, _), (11, _)]) (.cons rfl (.cons rfl (.cons rfl (.cons rfl (.cons rfl (.cons rfl (.cons rfl (.cons rfl .nil)))))))) (gx_perm (by first | exact .refl _ | (repeat (first | exact .refl _ | refine perm_take (by first | exact .head | exact .tail .head | exact .tail (.tail .head) | exact .tail (.tail (.tail .head)) | exact .tail (.tail (.tail (.tail .head))) | exact .tail (.tail (.tail (.tail (.tail .head))))) ?_))) (hD12 b6 True.intro))
                                      · skip
                                        refine gs_alloc kze66 rfl rfl rfl (fun b5 => ?_)
                                        refine gx_env (F := [(0, _), (1, _), (2, _), (3, _), (4, _), (5, _), (6, _), (9, _)]) (.cons rfl (.cons rfl (.cons rfl (.cons rfl (.cons rfl (.cons rfl (.cons rfl (.cons rfl .nil)))))))) (gx_perm (by first | exact .refl _ | (repeat (first | exact .refl _ | refine perm_take (by first | exact .head | exact .tail .head | exact .tail (.tail .head) | exact .tail (.tail (.tail .head)) | exact .tail (.tail (.tail (.tail .head))) | exact .tail (.tail (.tail (.tail (.tail .head))))) ?_))) (hD13 b5 b6 True.intro))
                                  · rintro b5 _
                                    refine ga_branch (rs := [1, 2, 5]) (by kernel_rfl) rfl (.cons (ls' := [true, true, false, false, true, false, false, false]) rfl rfl ?_ (.cons (ls' := [true, false, true, false, true, false, false, false]) rfl rfl ?_ (.cons (ls' := [true, false, false, false, true, true, false, false]) rfl rfl ?_ .nil)))
                                    · skip
                                      refine gs_pure (enters kcall66 (.cons rfl .nil)) (reach_spec a) rfl rfl rfl (fun _ _ => trivial) ?_
                                      refine gx_env (F := [(0, _), (1, _), (2, _), (3, _), (4, _), (5, _), (9, _), (10, _)]) (.cons rfl (.cons rfl (.cons rfl (.cons rfl (.cons rfl (.cons rfl (.cons rfl (.cons rfl .nil)))))))) (gx_perm (by first | exact .refl _ | (repeat (first | exact .refl _ | refine perm_take (by first | exact .head | exact .tail .head | exact .tail (.tail .head) | exact .tail (.tail (.tail .head)) | exact .tail (.tail (.tail (.tail .head))) | exact .tail (.tail (.tail (.tail (.tail .head))))) ?_))) (hD9 b5 True.intro))
                                    · skip
                                      refine gs_val (val_loadA kag24 rfl (sees_mem (by repeat (first | exact .head _ | refine .tail _ ?_ | refine List.mem_append_right _ ?_))) rfl rfl) rfl rfl rfl ?_
                                      refine gx_env (F := [(0, _), (1, _), (2, _), (3, _), (4, _), (5, _), (9, _), (11, _)]) (.cons rfl (.cons rfl (.cons rfl (.cons rfl (.cons rfl (.cons rfl (.cons rfl (.cons rfl .nil)))))))) (gx_perm (by first | exact .refl _ | (repeat (first | exact .refl _ | refine perm_take (by first | exact .head | exact .tail .head | exact .tail (.tail .head) | exact .tail (.tail (.tail .head)) | exact .tail (.tail (.tail (.tail .head))) | exact .tail (.tail (.tail (.tail (.tail .head))))) ?_))) (hD11 b5 True.intro))
                                    · skip
                                      refine gs_alloc kze66 rfl rfl rfl (fun b6 => ?_)
                                      refine gx_env (F := [(0, _), (1, _), (2, _), (3, _), (4, _), (5, _), (6, _), (9, _)]) (.cons rfl (.cons rfl (.cons rfl (.cons rfl (.cons rfl (.cons rfl (.cons rfl (.cons rfl .nil)))))))) (gx_perm (by first | exact .refl _ | (repeat (first | exact .refl _ | refine perm_take (by first | exact .head | exact .tail .head | exact .tail (.tail .head) | exact .tail (.tail (.tail .head)) | exact .tail (.tail (.tail (.tail .head))) | exact .tail (.tail (.tail (.tail (.tail .head))))) ?_))) (hD13 b5 b6 True.intro))
                                · rintro  _
                                  refine ga_branch (rs := [1, 4, 5]) (by kernel_rfl) rfl (.cons (ls' := [true, true, true, false, false, false, false, false]) rfl rfl ?_ (.cons (ls' := [true, false, true, false, true, false, false, false]) rfl rfl ?_ (.cons (ls' := [true, false, true, false, false, true, false, false]) rfl rfl ?_ .nil)))
                                  · skip
                                    refine gs_pure (enters kcall66 (.cons rfl .nil)) (reach_spec a) rfl rfl rfl (fun _ _ => trivial) ?_
                                    refine gx_env (F := [(0, _), (1, _), (2, _), (3, _), (4, _), (9, _), (10, _), (11, _)]) (.cons rfl (.cons rfl (.cons rfl (.cons rfl (.cons rfl (.cons rfl (.cons rfl (.cons rfl .nil)))))))) (gx_perm (by first | exact .refl _ | (repeat (first | exact .refl _ | refine perm_take (by first | exact .head | exact .tail .head | exact .tail (.tail .head) | exact .tail (.tail (.tail .head)) | exact .tail (.tail (.tail (.tail .head))) | exact .tail (.tail (.tail (.tail (.tail .head))))) ?_))) (hD8  True.intro))
                                  · skip
                                    refine gs_alloc kze66 rfl rfl rfl (fun b5 => ?_)
                                    refine gx_env (F := [(0, _), (1, _), (2, _), (3, _), (4, _), (5, _), (9, _), (11, _)]) (.cons rfl (.cons rfl (.cons rfl (.cons rfl (.cons rfl (.cons rfl (.cons rfl (.cons rfl .nil)))))))) (gx_perm (by first | exact .refl _ | (repeat (first | exact .refl _ | refine perm_take (by first | exact .head | exact .tail .head | exact .tail (.tail .head) | exact .tail (.tail (.tail .head)) | exact .tail (.tail (.tail (.tail .head))) | exact .tail (.tail (.tail (.tail (.tail .head))))) ?_))) (hD11 b5 True.intro))
                                  · skip
                                    refine gs_alloc kze66 rfl rfl rfl (fun b6 => ?_)
                                    refine gx_env (F := [(0, _), (1, _), (2, _), (3, _), (4, _), (6, _), (9, _), (11, _)]) (.cons rfl (.cons rfl (.cons rfl (.cons rfl (.cons rfl (.cons rfl (.cons rfl (.cons rfl .nil)))))))) (gx_perm (by first | exact .refl _ | (repeat (first | exact .refl _ | refine perm_take (by first | exact .head | exact .tail .head | exact .tail (.tail .head) | exact .tail (.tail (.tail .head)) | exact .tail (.tail (.tail (.tail .head))) | exact .tail (.tail (.tail (.tail (.tail .head))))) ?_))) (hD12 b6 True.intro))
                              · rintro b5 b6 _
                                refine ga_branch (rs := [0]) (by kernel_rfl) rfl (.cons (ls' := [true, false, true, false, true, true, false, false]) rfl rfl ?_ .nil)
                                refine gs_val (val_loadA kag24 rfl (sees_mem (by repeat (first | exact .head _ | refine .tail _ ?_ | refine List.mem_append_right _ ?_))) rfl rfl) rfl rfl rfl ?_
                                refine gx_env (F := [(0, _), (1, _), (2, _), (3, _), (4, _), (5, _), (6, _), (9, _), (11, _)]) (.cons rfl (.cons rfl (.cons rfl (.cons rfl (.cons rfl (.cons rfl (.cons rfl (.cons rfl (.cons rfl .nil))))))))) (gx_perm (by first | exact .refl _ | (repeat (first | exact .refl _ | refine perm_take (by first | exact .head | exact .tail .head | exact .tail (.tail .head) | exact .tail (.tail (.tail .head)) | exact .tail (.tail (.tail (.tail .head))) | exact .tail (.tail (.tail (.tail (.tail .head))))) ?_))) (hD7 b5 b6 True.intro))
                            · rintro b5 b6 _
                              refine ga_branch (rs := [1, 2]) (by kernel_rfl) rfl (.cons (ls' := [true, true, false, false, true, true, false, false]) rfl rfl ?_ (.cons (ls' := [true, false, true, false, true, true, false, false]) rfl rfl ?_ .nil))
                              · skip
                                refine gs_pure (enters kcall66 (.cons rfl .nil)) (reach_spec a) rfl rfl rfl (fun _ _ => trivial) ?_
                                refine gx_env (F := [(0, _), (1, _), (2, _), (3, _), (4, _), (5, _), (6, _), (9, _), (10, _)]) (.cons rfl (.cons rfl (.cons rfl (.cons rfl (.cons rfl (.cons rfl (.cons rfl (.cons rfl (.cons rfl .nil))))))))) (gx_perm (by first | exact .refl _ | (repeat (first | exact .refl _ | refine perm_take (by first | exact .head | exact .tail .head | exact .tail (.tail .head) | exact .tail (.tail (.tail .head)) | exact .tail (.tail (.tail (.tail .head))) | exact .tail (.tail (.tail (.tail (.tail .head))))) ?_))) (hD6 b5 b6 True.intro))
                              · skip
                                refine gs_val (val_loadA kag24 rfl (sees_mem (by repeat (first | exact .head _ | refine .tail _ ?_ | refine List.mem_append_right _ ?_))) rfl rfl) rfl rfl rfl ?_
                                refine gx_env (F := [(0, _), (1, _), (2, _), (3, _), (4, _), (5, _), (6, _), (9, _), (11, _)]) (.cons rfl (.cons rfl (.cons rfl (.cons rfl (.cons rfl (.cons rfl (.cons rfl (.cons rfl (.cons rfl .nil))))))))) (gx_perm (by first | exact .refl _ | (repeat (first | exact .refl _ | refine perm_take (by first | exact .head | exact .tail .head | exact .tail (.tail .head) | exact .tail (.tail (.tail .head)) | exact .tail (.tail (.tail (.tail .head))) | exact .tail (.tail (.tail (.tail (.tail .head))))) ?_))) (hD7 b5 b6 True.intro))
                          · rintro b6 _
                            refine ga_branch (rs := [1, 4]) (by kernel_rfl) rfl (.cons (ls' := [true, true, true, false, false, true, false, false]) rfl rfl ?_ (.cons (ls' := [true, false, true, false, true, true, false, false]) rfl rfl ?_ .nil))
                            · skip
                              refine gs_pure (enters kcall66 (.cons rfl .nil)) (reach_spec a) rfl rfl rfl (fun _ _ => trivial) ?_
                              refine gx_env (F := [(0, _), (1, _), (2, _), (3, _), (4, _), (6, _), (9, _), (10, _), (11, _)]) (.cons rfl (.cons rfl (.cons rfl (.cons rfl (.cons rfl (.cons rfl (.cons rfl (.cons rfl (.cons rfl .nil))))))))) (gx_perm (by first | exact .refl _ | (repeat (first | exact .refl _ | refine perm_take (by first | exact .head | exact .tail .head | exact .tail (.tail .head) | exact .tail (.tail (.tail .head)) | exact .tail (.tail (.tail (.tail .head))) | exact .tail (.tail (.tail (.tail (.tail .head))))) ?_))) (hD5 b6 True.intro))
                            · skip
                              refine gs_alloc kze66 rfl rfl rfl (fun b5 => ?_)
                              refine gx_env (F := [(0, _), (1, _), (2, _), (3, _), (4, _), (5, _), (6, _), (9, _), (11, _)]) (.cons rfl (.cons rfl (.cons rfl (.cons rfl (.cons rfl (.cons rfl (.cons rfl (.cons rfl (.cons rfl .nil))))))))) (gx_perm (by first | exact .refl _ | (repeat (first | exact .refl _ | refine perm_take (by first | exact .head | exact .tail .head | exact .tail (.tail .head) | exact .tail (.tail (.tail .head)) | exact .tail (.tail (.tail (.tail .head))) | exact .tail (.tail (.tail (.tail (.tail .head))))) ?_))) (hD7 b5 b6 True.intro))
                        · rintro b5 _
                          refine ga_branch (rs := [1, 5]) (by kernel_rfl) rfl (.cons (ls' := [true, true, true, false, true, false, false, false]) rfl rfl ?_ (.cons (ls' := [true, false, true, false, true, true, false, false]) rfl rfl ?_ .nil))
                          · skip
                            refine gs_pure (enters kcall66 (.cons rfl .nil)) (reach_spec a) rfl rfl rfl (fun _ _ => trivial) ?_
                            refine gx_env (F := [(0, _), (1, _), (2, _), (3, _), (4, _), (5, _), (9, _), (10, _), (11, _)]) (.cons rfl (.cons rfl (.cons rfl (.cons rfl (.cons rfl (.cons rfl (.cons rfl (.cons rfl (.cons rfl .nil))))))))) (gx_perm (by first | exact .refl _ | (repeat (first | exact .refl _ | refine perm_take (by first | exact .head | exact .tail .head | exact .tail (.tail .head) | exact .tail (.tail (.tail .head)) | exact .tail (.tail (.tail (.tail .head))) | exact .tail (.tail (.tail (.tail (.tail .head))))) ?_))) (hD4 b5 True.intro))
                          · skip
                            refine gs_alloc kze66 rfl rfl rfl (fun b6 => ?_)
                            refine gx_env (F := [(0, _), (1, _), (2, _), (3, _), (4, _), (5, _), (6, _), (9, _), (11, _)]) (.cons rfl (.cons rfl (.cons rfl (.cons rfl (.cons rfl (.cons rfl (.cons rfl (.cons rfl (.cons rfl .nil))))))))) (gx_perm (by first | exact .refl _ | (repeat (first | exact .refl _ | refine perm_take (by first | exact .head | exact .tail .head | exact .tail (.tail .head) | exact .tail (.tail (.tail .head)) | exact .tail (.tail (.tail (.tail .head))) | exact .tail (.tail (.tail (.tail (.tail .head))))) ?_))) (hD7 b5 b6 True.intro))
                      · rintro b6 _
                        refine ga_branch (rs := [2, 4]) (by kernel_rfl) rfl (.cons (ls' := [true, true, true, false, false, true, false, false]) rfl rfl ?_ (.cons (ls' := [true, true, false, false, true, true, false, false]) rfl rfl ?_ .nil))
                        · skip
                          refine gs_val (val_loadA kag24 rfl (sees_mem (by repeat (first | exact .head _ | refine .tail _ ?_ | refine List.mem_append_right _ ?_))) rfl rfl) rfl rfl rfl ?_
                          refine gx_env (F := [(0, _), (1, _), (2, _), (3, _), (4, _), (6, _), (9, _), (10, _), (11, _)]) (.cons rfl (.cons rfl (.cons rfl (.cons rfl (.cons rfl (.cons rfl (.cons rfl (.cons rfl (.cons rfl .nil))))))))) (gx_perm (by first | exact .refl _ | (repeat (first | exact .refl _ | refine perm_take (by first | exact .head | exact .tail .head | exact .tail (.tail .head) | exact .tail (.tail (.tail .head)) | exact .tail (.tail (.tail (.tail .head))) | exact .tail (.tail (.tail (.tail (.tail .head))))) ?_))) (hD5 b6 True.intro))
                        · skip
                          refine gs_alloc kze66 rfl rfl rfl (fun b5 => ?_)
                          refine gx_env (F := [(0, _), (1, _), (2, _), (3, _), (4, _), (5, _), (6, _), (9, _), (10, _)]) (.cons rfl (.cons rfl (.cons rfl (.cons rfl (.cons rfl (.cons rfl (.cons rfl (.cons rfl (.cons rfl .nil))))))))) (gx_perm (by first | exact .refl _ | (repeat (first | exact .refl _ | refine perm_take (by first | exact .head | exact .tail .head | exact .tail (.tail .head) | exact .tail (.tail (.tail .head)) | exact .tail (.tail (.tail (.tail .head))) | exact .tail (.tail (.tail (.tail (.tail .head))))) ?_))) (hD6 b5 b6 True.intro))
                    · rintro b5 _
                      refine ga_branch (rs := [2, 5]) (by kernel_rfl) rfl (.cons (ls' := [true, true, true, false, true, false, false, false]) rfl rfl ?_ (.cons (ls' := [true, true, false, false, true, true, false, false]) rfl rfl ?_ .nil))
                      · skip
                        refine gs_val (val_loadA kag24 rfl (sees_mem (by repeat (first | exact .head _ | refine .tail _ ?_ | refine List.mem_append_right _ ?_))) rfl rfl) rfl rfl rfl ?_
                        refine gx_env (F := [(0, _), (1, _), (2, _), (3, _), (4, _), (5, _), (9, _), (10, _), (11, _)]) (.cons rfl (.cons rfl (.cons rfl (.cons rfl (.cons rfl (.cons rfl (.cons rfl (.cons rfl (.cons rfl .nil))))))))) (gx_perm (by first | exact .refl _ | (repeat (first | exact .refl _ | refine perm_take (by first | exact .head | exact .tail .head | exact .tail (.tail .head) | exact .tail (.tail (.tail .head)) | exact .tail (.tail (.tail (.tail .head))) | exact .tail (.tail (.tail (.tail (.tail .head))))) ?_))) (hD4 b5 True.intro))
                      · skip
                        refine gs_alloc kze66 rfl rfl rfl (fun b6 => ?_)
                        refine gx_env (F := [(0, _), (1, _), (2, _), (3, _), (4, _), (5, _), (6, _), (9, _), (10, _)]) (.cons rfl (.cons rfl (.cons rfl (.cons rfl (.cons rfl (.cons rfl (.cons rfl (.cons rfl (.cons rfl .nil))))))))) (gx_perm (by first | exact .refl _ | (repeat (first | exact .refl _ | refine perm_take (by first | exact .head | exact .tail .head | exact .tail (.tail .head) | exact .tail (.tail (.tail .head)) | exact .tail (.tail (.tail (.tail .head))) | exact .tail (.tail (.tail (.tail (.tail .head))))) ?_))) (hD6 b5 b6 True.intro))
                  · rintro  _
                    refine ga_branch (rs := [3, 4, 5]) (by kernel_rfl) rfl (.cons (ls' := [true, true, true, true, false, false, false, false]) rfl rfl ?_ (.cons (ls' := [true, true, true, false, true, false, false, false]) rfl rfl ?_ (.cons (ls' := [true, true, true, false, false, true, false, false]) rfl rfl ?_ .nil)))
                    · skip
                      refine gs_pure (enters kcall66 (.cons rfl .nil)) (reach_spec b) rfl rfl rfl (fun _ _ => trivial) ?_
                      refine ga_branch (rs := [4, 5]) (by kernel_rfl) rfl (.cons (ls' := [true, true, true, true, true, false, false, false]) rfl rfl ?_ (.cons (ls' := [true, true, true, true, false, true, false, false]) rfl rfl ?_ .nil))
                      · skip
                        refine gs_alloc kze66 rfl rfl rfl (fun b5 => ?_)
                        refine gx_env (F := [(0, _), (1, _), (2, _), (3, _), (4, _), (5, _), (9, _), (10, _), (11, _), (12, _)]) (.cons rfl (.cons rfl (.cons rfl (.cons rfl (.cons rfl (.cons rfl (.cons rfl (.cons rfl (.cons rfl (.cons rfl .nil)))))))))) (gx_perm (by first | exact .refl _ | (repeat (first | exact .refl _ | refine perm_take (by first | exact .head | exact .tail .head | exact .tail (.tail .head) | exact .tail (.tail (.tail .head)) | exact .tail (.tail (.tail (.tail .head))) | exact .tail (.tail (.tail (.tail (.tail .head))))) ?_))) (hD1 b5 True.intro))
                      · skip
                        refine gs_alloc kze66 rfl rfl rfl (fun b6 => ?_)
                        refine gx_env (F := [(0, _), (1, _), (2, _), (3, _), (4, _), (6, _), (9, _), (10, _), (11, _), (12, _)]) (.cons rfl (.cons rfl (.cons rfl (.cons rfl (.cons rfl (.cons rfl (.cons rfl (.cons rfl (.cons rfl (.cons rfl .nil)))))))))) (gx_perm (by first | exact .refl _ | (repeat (first | exact .refl _ | refine perm_take (by first | exact .head | exact .tail .head | exact .tail (.tail .head) | exact .tail (.tail (.tail .head)) | exact .tail (.tail (.tail (.tail .head))) | exact .tail (.tail (.tail (.tail (.tail .head))))) ?_))) (hD2 b6 True.intro))
                    · skip
                      refine gs_alloc kze66 rfl rfl rfl (fun b5 => ?_)
                      refine gx_env (F := [(0, _), (1, _), (2, _), (3, _), (4, _), (5, _), (9, _), (10, _), (11, _)]) (.cons rfl (.cons rfl (.cons rfl (.cons rfl (.cons rfl (.cons rfl (.cons rfl (.cons rfl (.cons rfl .nil))))))))) (gx_perm (by first | exact .refl _ | (repeat (first | exact .refl _ | refine perm_take (by first | exact .head | exact .tail .head | exact .tail (.tail .head) | exact .tail (.tail (.tail .head)) | exact .tail (.tail (.tail (.tail .head))) | exact .tail (.tail (.tail (.tail (.tail .head))))) ?_))) (hD4 b5 True.intro))
                    · skip
                      refine gs_alloc kze66 rfl rfl rfl (fun b6 => ?_)
                      refine gx_env (F := [(0, _), (1, _), (2, _), (3, _), (4, _), (6, _), (9, _), (10, _), (11, _)]) (.cons rfl (.cons rfl (.cons rfl (.cons rfl (.cons rfl (.cons rfl (.cons rfl (.cons rfl (.cons rfl .nil))))))))) (gx_perm (by first | exact .refl _ | (repeat (first | exact .refl _ | refine perm_take (by first | exact .head | exact .tail .head | exact .tail (.tail .head) | exact .tail (.tail (.tail .head)) | exact .tail (.tail (.tail (.tail .head))) | exact .tail (.tail (.tail (.tail (.tail .head))))) ?_))) (hD5 b6 True.intro))
                · rintro b5 b6 _
                  refine ga_branch (rs := [1]) (by kernel_rfl) rfl (.cons (ls' := [true, true, true, false, true, true, false, false]) rfl rfl ?_ .nil)
                  refine gs_pure (enters kcall66 (.cons rfl .nil)) (reach_spec a) rfl rfl rfl (fun _ _ => trivial) ?_
                  refine gx_env (F := [(0, _), (1, _), (2, _), (3, _), (4, _), (5, _), (6, _), (9, _), (10, _), (11, _)]) (.cons rfl (.cons rfl (.cons rfl (.cons rfl (.cons rfl (.cons rfl (.cons rfl (.cons rfl (.cons rfl (.cons rfl .nil)))))))))) (gx_perm (by first | exact .refl _ | (repeat (first | exact .refl _ | refine perm_take (by first | exact .head | exact .tail .head | exact .tail (.tail .head) | exact .tail (.tail (.tail .head)) | exact .tail (.tail (.tail (.tail .head))) | exact .tail (.tail (.tail (.tail (.tail .head))))) ?_))) (hD3 b5 b6 True.intro))
              · rintro b5 b6 _
                refine ga_branch (rs := [2]) (by kernel_rfl) rfl (.cons (ls' := [true, true, true, false, true, true, false, false]) rfl rfl ?_ .nil)
                refine gs_val (val_loadA kag24 rfl (sees_mem (by repeat (first | exact .head _ | refine .tail _ ?_ | refine List.mem_append_right _ ?_))) rfl rfl) rfl rfl rfl ?_
                refine gx_env (F := [(0, _), (1, _), (2, _), (3, _), (4, _), (5, _), (6, _), (9, _), (10, _), (11, _)]) (.cons rfl (.cons rfl (.cons rfl (.cons rfl (.cons rfl (.cons rfl (.cons rfl (.cons rfl (.cons rfl (.cons rfl .nil)))))))))) (gx_perm (by first | exact .refl _ | (repeat (first | exact .refl _ | refine perm_take (by first | exact .head | exact .tail .head | exact .tail (.tail .head) | exact .tail (.tail (.tail .head)) | exact .tail (.tail (.tail (.tail .head))) | exact .tail (.tail (.tail (.tail (.tail .head))))) ?_))) (hD3 b5 b6 True.intro))
            · rintro b6 _
              refine ga_branch (rs := [3, 4]) (by kernel_rfl) rfl (.cons (ls' := [true, true, true, true, false, true, false, false]) rfl rfl ?_ (.cons (ls' := [true, true, true, false, true, true, false, false]) rfl rfl ?_ .nil))
              · skip
                refine gs_pure (enters kcall66 (.cons rfl .nil)) (reach_spec b) rfl rfl rfl (fun _ _ => trivial) ?_
                refine gx_env (F := [(0, _), (1, _), (2, _), (3, _), (4, _), (6, _), (9, _), (10, _), (11, _), (12, _)]) (.cons rfl (.cons rfl (.cons rfl (.cons rfl (.cons rfl (.cons rfl (.cons rfl (.cons rfl (.cons rfl (.cons rfl .nil)))))))))) (gx_perm (by first | exact .refl _ | (repeat (first | exact .refl _ | refine perm_take (by first | exact .head | exact .tail .head | exact .tail (.tail .head) | exact .tail (.tail (.tail .head)) | exact .tail (.tail (.tail (.tail .head))) | exact .tail (.tail (.tail (.tail (.tail .head))))) ?_))) (hD2 b6 True.intro))
              · skip
                refine gs_alloc kze66 rfl rfl rfl (fun b5 => ?_)
                refine gx_env (F := [(0, _), (1, _), (2, _), (3, _), (4, _), (5, _), (6, _), (9, _), (10, _), (11, _)]) (.cons rfl (.cons rfl (.cons rfl (.cons rfl (.cons rfl (.cons rfl (.cons rfl (.cons rfl (.cons rfl (.cons rfl .nil)))))))))) (gx_perm (by first | exact .refl _ | (repeat (first | exact .refl _ | refine perm_take (by first | exact .head | exact .tail .head | exact .tail (.tail .head) | exact .tail (.tail (.tail .head)) | exact .tail (.tail (.tail (.tail .head))) | exact .tail (.tail (.tail (.tail (.tail .head))))) ?_))) (hD3 b5 b6 True.intro))
          · rintro b5 _
            refine ga_branch (rs := [3, 5]) (by kernel_rfl) rfl (.cons (ls' := [true, true, true, true, true, false, false, false]) rfl rfl ?_ (.cons (ls' := [true, true, true, false, true, true, false, false]) rfl rfl ?_ .nil))
            · skip
              refine gs_pure (enters kcall66 (.cons rfl .nil)) (reach_spec b) rfl rfl rfl (fun _ _ => trivial) ?_
              refine gx_env (F := [(0, _), (1, _), (2, _), (3, _), (4, _), (5, _), (9, _), (10, _), (11, _), (12, _)]) (.cons rfl (.cons rfl (.cons rfl (.cons rfl (.cons rfl (.cons rfl (.cons rfl (.cons rfl (.cons rfl (.cons rfl .nil)))))))))) (gx_perm (by first | exact .refl _ | (repeat (first | exact .refl _ | refine perm_take (by first | exact .head | exact .tail .head | exact .tail (.tail .head) | exact .tail (.tail (.tail .head)) | exact .tail (.tail (.tail (.tail .head))) | exact .tail (.tail (.tail (.tail (.tail .head))))) ?_))) (hD1 b5 True.intro))
            · skip
              refine gs_alloc kze66 rfl rfl rfl (fun b6 => ?_)
              refine gx_env (F := [(0, _), (1, _), (2, _), (3, _), (4, _), (5, _), (6, _), (9, _), (10, _), (11, _)]) (.cons rfl (.cons rfl (.cons rfl (.cons rfl (.cons rfl (.cons rfl (.cons rfl (.cons rfl (.cons rfl (.cons rfl .nil)))))))))) (gx_perm (by first | exact .refl _ | (repeat (first | exact .refl _ | refine perm_take (by first | exact .head | exact .tail .head | exact .tail (.tail .head) | exact .tail (.tail (.tail .head)) | exact .tail (.tail (.tail (.tail .head))) | exact .tail (.tail (.tail (.tail (.tail .head))))) ?_))) (hD3 b5 b6 True.intro))
        · rintro b5 b6 _
          refine ga_branch (rs := [3]) (by kernel_rfl) rfl (.cons (ls' := [true, true, true, true, true, true, false, false]) rfl rfl ?_ .nil)
          refine gs_pure (enters kcall66 (.cons rfl .nil)) (reach_spec b) rfl rfl rfl (fun _ _ => trivial) ?_
          refine gx_env (F := [(0, _), (1, _), (2, _), (3, _), (4, _), (5, _), (6, _), (9, _), (10, _), (11, _), (12, _)]) (.cons rfl (.cons rfl (.cons rfl (.cons rfl (.cons rfl (.cons rfl (.cons rfl (.cons rfl (.cons rfl (.cons rfl (.cons rfl .nil))))))))))) (gx_perm (by first | exact .refl _ | (repeat (first | exact .refl _ | refine perm_take (by first | exact .head | exact .tail .head | exact .tail (.tail .head) | exact .tail (.tail (.tail .head)) | exact .tail (.tail (.tail (.tail .head))) | exact .tail (.tail (.tail (.tail (.tail .head))))) ?_))) (hD0 b5 b6 True.intro))
      · rintro b6 _
        refine ga_branch (rs := [4]) (by kernel_rfl) rfl (.cons (ls' := [true, true, true, true, true, true, false, false]) rfl rfl ?_ .nil)
        refine gs_alloc kze66 rfl rfl rfl (fun b5 => ?_)
        refine gx_env (F := [(0, _), (1, _), (2, _), (3, _), (4, _), (5, _), (6, _), (9, _), (10, _), (11, _), (12, _)]) (.cons rfl (.cons rfl (.cons rfl (.cons rfl (.cons rfl (.cons rfl (.cons rfl (.cons rfl (.cons rfl (.cons rfl (.cons rfl .nil))))))))))) (gx_perm (by first | exact .refl _ | (repeat (first | exact .refl _ | refine perm_take (by first | exact .head | exact .tail .head | exact .tail (.tail .head) | exact .tail (.tail (.tail .head)) | exact .tail (.tail (.tail (.tail .head))) | exact .tail (.tail (.tail (.tail (.tail .head))))) ?_))) (hD0 b5 b6 True.intro))
    · rintro b5 _
      refine ga_branch (rs := [5]) (by kernel_rfl) rfl (.cons (ls' := [true, true, true, true, true, true, false, false]) rfl rfl ?_ .nil)
      refine gs_alloc kze66 rfl rfl rfl (fun b6 => ?_)
      refine gx_env (F := [(0, _), (1, _), (2, _), (3, _), (4, _), (5, _), (6, _), (9, _), (10, _), (11, _), (12, _)]) (.cons rfl (.cons rfl (.cons rfl (.cons rfl (.cons rfl (.cons rfl (.cons rfl (.cons rfl (.cons rfl (.cons rfl (.cons rfl .nil))))))))))) (gx_perm (by first | exact .refl _ | (repeat (first | exact .refl _ | refine perm_take (by first | exact .head | exact .tail .head | exact .tail (.tail .head) | exact .tail (.tail (.tail .head)) | exact .tail (.tail (.tail (.tail .head))) | exact .tail (.tail (.tail (.tail (.tail .head))))) ?_))) (hD0 b5 b6 True.intro))
  · rintro b5 b6 _
    refine ga_branch (rs := [6]) (by kernel_rfl) rfl (.cons (ls' := [true, true, true, true, true, true, true, false]) rfl rfl ?_ .nil)
    refine gs_store ksz66 rfl rfl rfl rfl rfl rfl (by first | exact .head | exact .tail .head | exact .tail (.tail .head) | exact .tail (.tail (.tail .head)) | exact .tail (.tail (.tail (.tail .head))) | exact .tail (.tail (.tail (.tail (.tail .head))))) (by simp) (by first | ((with_reducible refine splice_all _ _ ?_); simp; done) | (simp only [splice, stL, digL, List.take_succ_cons, List.take_zero, List.drop_succ_cons, List.drop_zero, List.length_cons, List.length_nil, Nat.reduceAdd, Nat.reduceMul, Nat.zero_add, Nat.zero_mul, List.cons_append, List.nil_append]; exact rfl)) ?_
    refine ga_branch (rs := [7]) (by kernel_rfl) rfl (.cons (ls' := [true, true, true, true, true, true, true, true]) rfl rfl ?_ .nil)
    refine gs_store ksz66 rfl rfl rfl rfl rfl rfl (by first | exact .head | exact .tail .head | exact .tail (.tail .head) | exact .tail (.tail (.tail .head)) | exact .tail (.tail (.tail (.tail .head))) | exact .tail (.tail (.tail (.tail (.tail .head))))) (by simp) (by first | ((with_reducible refine splice_all _ _ ?_); simp; done) | (simp only [splice, stL, digL, List.take_succ_cons, List.take_zero, List.drop_succ_cons, List.drop_zero, List.length_cons, List.length_nil, Nat.reduceAdd, Nat.reduceMul, Nat.zero_add, Nat.zero_mul, List.cons_append, List.nil_append]; exact rfl)) ?_
    refine ga_done (by kernel_rfl) ?_
    refine gk_seq ?_
    refine gc_seq ?_
    refine gc_region ?_
    refine gl_cons (gs_val (val_assign rfl) rfl rfl rfl ?_)
    refine gl_nil ?_
    refine gk_seq ?_
    refine gc_seq ?_
    refine gc_seq ?_
    refine gc_region ?_
    refine gl_cons (gs_val (val_loadA kag66 rfl (sees_mem (by repeat (first | exact .head _ | refine .tail _ ?_ | refine List.mem_append_right _ ?_))) rfl rfl) rfl rfl rfl ?_)
    refine gl_cons (gs_val (val_loadA kag66 rfl (sees_mem (by repeat (first | exact .head _ | refine .tail _ ?_ | refine List.mem_append_right _ ?_))) rfl rfl) rfl rfl rfl ?_)
    refine gl_cons (gs_val (val_eqlInts (l := dgI a) (r := dgI b) kints66 rfl rfl rfl rfl rfl rfl) rfl rfl rfl ?_)
    refine gl_nil ?_
    refine gk_seq ?_
    refine gc_if rfl (fun h15 => ?_) (fun h15 => ?_)
    · have hab := dgI_inj a b h15
      have hfin : aheadI a b = -1 := by rw [hab]; exact ahead_self b
      refine gc_seq ?_
      refine gc_region ?_
      refine gl_cons (gs_val (val_move rfl) rfl rfl rfl ?_)
      refine gl_cons (gs_val (val_assign rfl) rfl rfl rfl ?_)
      refine gl_nil ?_
      refine gk_seq ?_
      refine gc_ret ?_
      refine gk_seq_ret ?_
      refine gk_scope_ret ?_
      refine gk_ret rfl (resv_tmp rfl .nil) (List.nil_sublist _) ?_
      exact ⟨congrArg I64 hfin.symm, rfl⟩
    · skip
      refine gc_skip ?_
      refine gk_seq ?_
      refine gc_seq ?_
      refine gc_label ?_
      refine gk_seq ?_
      refine gc_seq ?_
      refine gc_seq ?_
      refine gc_region ?_
      refine gl_cons (gs_val (val_move rfl) rfl rfl rfl ?_)
      refine gl_nil ?_
      refine gk_seq ?_
      refine gc_block ?_
      refine gc_loop (σ := Nat) (I := fun k => k ≤ 18 ∧ ∀ j, j < k → ¬ dgc b j < dgc a j) (μ := fun k => 18 - k) (EI := fun k => [(7, I64 (-1)), (17, I64 (k : Int)), (5, .pointer (some ⟨b5, 0, none⟩)), (6, .pointer (some ⟨b6, 0, none⟩))]) (LI := fun k => [⟨b6, .cells (dgL b).toArray 66 (0, 0)⟩, ⟨b5, .cells (dgL a).toArray 66 (0, 0)⟩, ⟨b3, .cells (digL b).toArray 24 (0, 0)⟩, ⟨b2, .cells (digL a).toArray 24 (0, 0)⟩]) 0 ?_ ?_ ?_ ?_
      · exact ⟨Nat.zero_le _, fun j hj => absurd hj (Nat.not_lt_zero j)⟩
      · exact (.cons rfl (.cons rfl (.cons rfl (.cons rfl .nil))))
      · exact fun _ h => h
      · intro k ⟨hI, hno⟩
        have hI : k ≤ 18 := hI
        have hno : ∀ j, j < k → ¬ dgc b j < dgc a j := hno
        refine gc_seq ?_
        refine gc_region ?_
        refine gl_cons (gs_val (val_lss rfl rfl) rfl rfl rfl ?_)
        refine gl_nil ?_
        refine gk_seq ?_
        refine gc_seq ?_
        refine gc_if rfl (fun hk => ?_) (fun hk => ?_)
        · have hk : k < 18 := by omega
          refine gc_skip ?_
          refine gk_seq ?_
          refine gc_seq ?_
          refine gc_block ?_
          refine gc_seq ?_
          refine gc_region ?_
          refine gl_cons (gs_val (val_move rfl) rfl rfl rfl ?_)
          refine gl_cons (gs_val (val_assign rfl) rfl rfl rfl ?_)
          refine gl_nil ?_
          refine gk_seq ?_
          refine gc_seq ?_
          refine gc_drawAll kmixed (by kernel_rfl) ?_
          refine gq_val (val_move rfl) rfl rfl rfl ?_
          refine gq_val (val_indexArr kar66 rfl rfl rfl (by omega)) rfl rfl rfl ?_
          refine gq_val (val_load1 (v := I64 (dgc a k : Int)) kag3 rfl (sees_mem (by repeat (first | exact .head _ | refine .tail _ ?_ | refine List.mem_append_right _ ?_))) (dgL_get a k (by omega))) rfl rfl rfl ?_
          refine gq_val (val_move rfl) rfl rfl rfl ?_
          refine gq_val (val_indexArr kar66 rfl rfl rfl (by omega)) rfl rfl rfl ?_
          refine gq_val (val_load1 (v := I64 (dgc b k : Int)) kag3 rfl (sees_mem (by repeat (first | exact .head _ | refine .tail _ ?_ | refine List.mem_append_right _ ?_))) (dgL_get b k (by omega))) rfl rfl rfl ?_
          refine gq_val (val_gtr rfl rfl) rfl rfl rfl ?_
          refine gq_nil ?_
          refine gl_nil ?_
          refine gk_seq ?_
          refine gc_if rfl (fun h26 => ?_) (fun h26 => ?_)
          · have hfin := ahead_some a b k hk (by omega) hno
            refine gc_seq ?_
            refine gc_region ?_
            refine gl_cons (gs_val (val_move rfl) rfl rfl rfl ?_)
            refine gl_cons (gs_val (val_assign rfl) rfl rfl rfl ?_)
            refine gl_nil ?_
            refine gk_seq ?_
            refine gc_exit ?_
            refine gk_block_pass rfl ?_
            refine gk_seq_exit ?_
            refine gk_loop_exit ?_
            refine gk_block_exit ?_
            refine gk_seq ?_
            refine gc_seq ?_
            refine gc_region ?_
            refine gl_cons (gs_val (val_move rfl) rfl rfl rfl ?_)
            refine gl_cons (gs_val (val_assign rfl) rfl rfl rfl ?_)
            refine gl_nil ?_
            refine gk_seq ?_
            refine gc_ret ?_
            refine gk_scope_ret ?_
            refine gk_ret rfl (resv_tmp rfl .nil) (List.nil_sublist _) ?_
            exact ⟨congrArg I64 hfin.symm, rfl⟩
          · have h26' : ¬ dgc b k < dgc a k := by omega
            refine gc_skip ?_
            refine gk_block ?_
            refine gk_seq ?_
            refine gc_region ?_
            refine gl_cons (gs_val (val_addI rfl rfl (by omega)) rfl rfl rfl ?_)
            refine gl_cons (gs_val (val_move rfl) rfl rfl rfl ?_)
            refine gl_nil ?_
            refine gk_again (k + 1) ?_ ?_ ?_ ?_
            · exact ⟨by show k + 1 ≤ 18; omega, fun j hj => by rcases Nat.lt_or_ge j k with h | h; exact hno j h; obtain rfl : j = k := (by omega); omega⟩
            · show 18 - (k + 1) < 18 - k; omega
            · exact (.cons (rfl) (.cons (rfl) (.cons (rfl) (.cons (rfl) .nil))))
            · exact fun _ h => h
        · have e : k = 18 := by omega
          subst e
          have hfin := ahead_none a b hno
          refine gc_exit ?_
          refine gk_seq_exit ?_
          refine gk_loop_exit ?_
          refine gk_block_exit ?_
          refine gk_seq ?_
          refine gc_seq ?_
          refine gc_region ?_
          refine gl_cons (gs_val (val_move rfl) rfl rfl rfl ?_)
          refine gl_cons (gs_val (val_assign rfl) rfl rfl rfl ?_)
          refine gl_nil ?_
          refine gk_seq ?_
          refine gc_ret ?_
          refine gk_scope_ret ?_
          refine gk_ret rfl (resv_tmp rfl .nil) (List.nil_sublist _) ?_
          exact ⟨congrArg I64 hfin.symm, rfl⟩

set_option maxRecDepth 8000 in
/-- baize/baizeref05.Ahead -/
theorem rahead_spec (a b : BitVec 64) : Pure Try.prog 75 ([Dig a, Dig b]).toArray (fun _ => True) (I64 (aheadI a b)) := by
  refine spec_walk (n := 24) Try.func75 rfl rfl rfl (fun w0 hpre => ?_)
  refine gc_seq ?_
  refine gc_region ?_
  refine gl_cons (gs_box rfl rfl rfl rfl (fun b2 => ?_))
  refine gl_cons (gs_box rfl rfl rfl rfl (fun b3 => ?_))
  refine gl_cons (gs_val (val_assign rfl) rfl rfl rfl ?_)
  refine gl_nil ?_
  refine gk_seq ?_
  refine gc_seq ?_
  refine ga_start (m := 8) (ls := [false, false, false, false, false, false, false, false]) kmixed rfl rfl ?_
  apply share2 (α := Nat) (β := Nat) (m' := 2) (ls' := [true, true, true, true, true, true, false, false])
  · intro hD0
    apply share1 (α := Nat) (m' := 3) (ls' := [true, true, true, true, true, false, false, false])
    · intro hD1
      apply share1 (α := Nat) (m' := 3) (ls' := [true, true, true, true, false, true, false, false])
      · intro hD2
        apply share2 (α := Nat) (β := Nat) (m' := 3) (ls' := [true, true, true, false, true, true, false, false])
        · intro hD3
          apply share1 (α := Nat) (m' := 4) (ls' := [true, true, true, false, true, false, false, false])
          · intro hD4
            apply share1 (α := Nat) (m' := 4) (ls' := [true, true, true, false, false, true, false, false])
            · intro hD5
              apply share2 (α := Nat) (β := Nat) (m' := 4) (ls' := [true, true, false, false, true, true, false, false])
              · intro hD6
                apply share2 (α := Nat) (β := Nat) (m' := 4) (ls' := [true, false, true, false, true, true, false, false])
                · intro hD7
                  apply share0  (m' := 5) (ls' := [true, true, true, false, false, false, false, false])
                  · intro hD8
                    apply share1 (α := Nat) (m' := 5) (ls' := [true, true, false, false, true, false, false, false])
                    · intro hD9
                      apply share1 (α := Nat) (m' := 5) (ls' := [true, true, false, false, false, true, false, false])
                      · intro hD10
                        apply share1 (α := Nat) (m' := 5) (ls' := [true, false, true, false, true, false, false, false])
                        · intro hD11
                          apply share1 (α := Nat) (m' := 5) (ls' := [true, false, true, false, false, true, false, false])
                          · intro hD12
                            apply share2 (α := Nat) (β := Nat) (m' := 5) (ls' := [true, false, false, false, true, true, false, false])
                            · intro hD13
                              apply share2 (α := Nat) (β := Nat) (m' := 5) (ls' := [false, false, true, false, true, true, false, false])
                              · intro hD14
                                apply share0  (m' := 6) (ls' := [true, false, true, false, false, false, false, false])
                                · intro hD15
                                  apply share1 (α := Nat) (m' := 6) (ls' := [true, false, false, false, true, false, false, false])
                                  · intro hD16
                                    apply share1 (α := Nat) (m' := 6) (ls' := [true, false, false, false, false, true, false, false])
                                    · intro hD17
                                      apply share1 (α := Nat) (m' := 6) (ls' := [false, false, true, false, true, false, false, false])
                                      · intro hD18
                                        apply share1 (α := Nat) (m' := 6) (ls' := [false, false, true, false, false, true, false, false])
                                        · intro hD19
                                          apply share2 (α := Nat) (β := Nat) (m' := 6) (ls' := [false, false, false, false, true, true, false, false])
                                          · intro hD20
                                            refine ga_branch (rs := [0, 2, 4, 5]) (by kernel_rfl) rfl (.cons (ls' := [true, false, false, false, false, false, false, false]) rfl rfl ?_ (.cons (ls' := [false, false, true, false, false, false, false, false]) rfl rfl ?_ (.cons (ls' := [false, false, false, false, true, false, false, false]) rfl rfl ?_ (.cons (ls' := [false, false, false, false, false, true, false, false]) rfl rfl ?_ .nil))))
                                            · skip
                                              refine gs_val (val_loadA kag22 rfl (sees_mem (by repeat (first | exact .head _ | refine .tail _ ?_ | refine List.mem_append_right _ ?_))) rfl rfl) rfl rfl rfl ?_
                                              refine ga_branch (rs := [1, 2, 4, 5]) (by kernel_rfl) rfl (.cons (ls' := [true, true, false, false, false, false, false, false]) rfl rfl ?_ (.cons (ls' := [true, false, true, false, false, false, false, false]) rfl rfl ?_ (.cons (ls' := [true, false, false, false, true, false, false, false]) rfl rfl ?_ (.cons (ls' := [true, false, false, false, false, true, false, false]) rfl rfl ?_ .nil))))
                                              · skip
                                                refine gs_pure (enters kcall67 (.cons rfl .nil)) (digits_spec a) rfl rfl rfl (fun _ _ => trivial) ?_
                                                refine ga_branch (rs := [2, 4, 5]) (by kernel_rfl) rfl (.cons (ls' := [true, true, true, false, false, false, false, false]) rfl rfl ?_ (.cons (ls' := [true, true, false, false, true, false, false, false]) rfl rfl ?_ (.cons (ls' := [true, true, false, false, false, true, false, false]) rfl rfl ?_ .nil)))
                                                · skip
                                                  refine gs_val (val_loadA kag22 rfl (sees_mem (by repeat (first | exact .head _ | refine .tail _ ?_ | refine List.mem_append_right _ ?_))) rfl rfl) rfl rfl rfl ?_
                                                  refine gx_env (F := [(0, _), (1, _), (2, _), (3, _), (4, _), (8, _), (9, _), (10, _)]) (.cons rfl (.cons rfl (.cons rfl (.cons rfl (.cons rfl (.cons rfl (.cons rfl (.cons rfl .nil)))))))) (gx_perm (by first | exact .refl _ | (repeat (first | exact .refl _ | refine perm_take (by first | exact .head | exact .tail .head | exact .tail (.tail .head) | exact .tail (.tail (.tail .head)) | exact .tail (.tail (.tail (.tail .head))) | exact .tail (.tail (.tail (.tail (.tail .head))))) ?_))) (hD8  True.intro))
                                                · skip
                                                  refine gs_alloc kze66 rfl rfl rfl (fun b5 => ?_)
                                                  refine gx_env (F := [(0, _), (1, _), (2, _), (3, _), (4, _), (5, _), (8, _), (9, _)]) (.cons rfl (.cons rfl (.cons rfl (.cons rfl (.cons rfl (.cons rfl (.cons rfl (.cons rfl .nil)))))))) (gx_perm (by first | exact .refl _ | (repeat (first | exact .refl _ | refine perm_take (by first | exact .head | exact .tail .head | exact .tail (.tail .head) | exact .tail (.tail (.tail .head)) | exact .tail (.tail (.tail (.tail .head))) | exact .tail (.tail (.tail (.tail (.tail .head))))) ?_))) (hD9 b5 True.intro))
                                                · skip
                                                  refine gs_alloc kze66 rfl rfl rfl (fun b6 => ?_)
                                                  refine gx_env (F := [(0, _), (1, _), (2, _), (3, _), (4, _), (6, _), (8, _), (9, _)]) (.cons rfl (.cons rfl (.cons rfl (.cons rfl (.cons rfl (.cons rfl (.cons rfl (.cons rfl .nil)))))))) (gx_perm (by first | exact .refl _ | (repeat (first | exact .refl _ | refine perm_take (by first | exact .head | exact .tail .head | exact .tail (.tail .head) | exact .tail (.tail (.tail .head)) | exact .tail (.tail (.tail (.tail .head))) | exact .tail (.tail (.tail (.tail (.tail .head))))) ?_))) (hD10 b6 True.intro))
                                              · skip
                                                refine gs_val (val_loadA kag22 rfl (sees_mem (by repeat (first | exact .head _ | refine .tail _ ?_ | refine List.mem_append_right _ ?_))) rfl rfl) rfl rfl rfl ?_
                                                refine gx_env (F := [(0, _), (1, _), (2, _), (3, _), (4, _), (8, _), (10, _)]) (.cons rfl (.cons rfl (.cons rfl (.cons rfl (.cons rfl (.cons rfl (.cons rfl .nil))))))) (gx_perm (by first | exact .refl _ | (repeat (first | exact .refl _ | refine perm_take (by first | exact .head | exact .tail .head | exact .tail (.tail .head) | exact .tail (.tail (.tail .head)) | exact .tail (.tail (.tail (.tail .head))) | exact .tail (.tail (.tail (.tail (.tail .head))))) ?_))) (hD15  True.intro))
                                              · skip
                                                refine gs_alloc kze66 rfl rfl rfl (fun b5 => ?_)
                                                refine gx_env (F := [(0, _), (1, _), (2, _), (3, _), (4, _), (5, _), (8, _)]) (.cons rfl (.cons rfl (.cons rfl (.cons rfl (.cons rfl (.cons rfl (.cons rfl .nil))))))) (gx_perm (by first | exact .refl _ | (repeat (first | exact .refl _ | refine perm_take (by first | exact .head | exact .tail .head | exact .tail (.tail .head) | exact .tail (.tail (.tail .head)) | exact .tail (.tail (.tail (.tail .head))) | exact .tail (.tail (.tail (.tail (.tail .head))))) ?_))) (hD16 b5 True.intro))
                                              · skip
                                                refine gs_alloc kze66 rfl rfl rfl (fun b6 => ?_)
                                                refine gx_env (F := [(0, _), (1, _), (2, _), (3, _), (4, _), (6, _), (8, _)]) (.cons rfl (.cons rfl (.cons rfl (.cons rfl (.cons rfl (.cons rfl (.cons rfl .nil))))))) (gx_perm (by first | exact .refl _ | (repeat (first | exact .refl _ | refine perm_take (by first | exact .head | exact .tail .head | exact .tail (.tail .head) | exact .tail (.tail (.tail .head)) | exact .tail (.tail (.tail (.tail .head))) | exact .tail (.tail (.tail (.tail (.tail .head))))) ?_))) (hD17 b6 True.intro))
                                            · skip
                                              refine gs_val (val_loadA kag22 rfl (sees_mem (by repeat (first | exact .head _ | refine .tail _ ?_ | refine List.mem_append_right _ ?_))) rfl rfl) rfl rfl rfl ?_
                                              refine ga_branch (rs := [0, 4, 5]) (by kernel_rfl) rfl (.cons (ls' := [true, false, true, false, false, false, false, false]) rfl rfl ?_ (.cons (ls' := [false, false, true, false, true, false, false, false]) rfl rfl ?_ (.cons (ls' := [false, false, true, false, false, true, false, false]) rfl rfl ?_ .nil)))
                                              · skip
                                                refine gs_val (val_loadA kag22 rfl (sees_mem (by repeat (first | exact .head _ | refine .tail _ ?_ | refine List.mem_append_right _ ?_))) rfl rfl) rfl rfl rfl ?_
                                                refine gx_env (F := [(0, _), (1, _), (2, _), (3, _), (4, _), (8, _), (10, _)]) (.cons rfl (.cons rfl (.cons rfl (.cons rfl (.cons rfl (.cons rfl (.cons rfl .nil))))))) (gx_perm (by first | exact .refl _ | (repeat (first | exact .refl _ | refine perm_take (by first | exact .head | exact .tail .head | exact .tail (.tail .head) | exact .tail (.tail (.tail .head)) | exact .tail (.tail (.tail (.tail .head))) | exact .tail (.tail (.tail (.tail (.tail .head))))) ?_))) (hD15  True.intro))
                                              · skip
                                                refine gs_alloc kze66 rfl rfl rfl (fun b5 => ?_)
                                                refine gx_env (F := [(0, _), (1, _), (2, _), (3, _), (4, _), (5, _), (10, _)]) (.cons rfl (.cons rfl (.cons rfl (.cons rfl (.cons rfl (.cons rfl (.cons rfl .nil))))))) (gx_perm (by first | exact .refl _ | (repeat (first | exact .refl _ | refine perm_take (by first | exact .head | exact .tail .head | exact .tail (.tail .head) | exact .tail (.tail (.tail .head)) | exact .tail (.tail (.tail (.tail .head))) | exact .tail (.tail (.tail (.tail (.tail .head))))) ?_))) (hD18 b5 True.intro))
                                              · skip
                                                refine gs_alloc kze66 rfl rfl rfl (fun b6 => ?_)
                                                refine gx_env (F := [(0, _), (1, _), (2, _), (3, _), (4, _), (6, _), (10, _)]) (.cons rfl (.cons rfl (.cons rfl (.cons rfl (.cons rfl (.cons rfl (.cons rfl .nil))))))) (gx_perm (by first | exact .refl _ | (repeat (first | exact .refl _ | refine perm_take (by first | exact .head | exact .tail .head | exact .tail (.tail .head) | exact .tail (.tail (.tail .head)) | exact .tail (.tail (.tail (.tail .head))) | exact .tail (.tail (.tail (.tail (.tail .head))))) ?_))) (hD19 b6 True.intro))
                                            · skip
                                              refine gs_alloc kze66 rfl rfl rfl (fun b5 => ?_)
                                              refine ga_branch (rs := [0, 2, 5]) (by kernel_rfl) rfl (.cons (ls' := [true, false, false, false, true, false, false, false]) rfl rfl ?_ (.cons (ls' := [false, false, true, false, true, false, false, false]) rfl rfl ?_ (.cons (ls' := [false, false, false, false, true, true, false, false]) rfl rfl ?_ .nil)))
                                              · skip
                                                refine gs_val (val_loadA kag22 rfl (sees_mem (by repeat (first | exact .head _ | refine .tail _ ?_ | refine List.mem_append_right _ ?_))) rfl rfl) rfl rfl rfl ?_
                                                refine gx_env (F := [(0, _), (1, _), (2, _), (3, _), (4, _), (5, _), (8, _)]) (.cons rfl (.cons rfl (.cons rfl (.cons rfl (.cons rfl (.cons rfl (.cons rfl .nil))))))) (gx_perm (by first | exact .refl _ | (repeat (first | exact .refl _ | refine perm_take (by first | exact .head | exact .tail .head | exact .tail (.tail .head) | exact .tail (.tail (.tail .head)) | exact .tail (.tail (.tail (.tail .head))) | exact .tail (.tail (.tail (.tail (.tail .head))))) ?_))) (hD16 b5 True.intro))
                                              · skip
                                                refine gs_val (val_loadA kag22 rfl (sees_mem (by repeat (first | exact .head _ | refine .tail _ ?_ | refine List.mem_append_right _ ?_))) rfl rfl) rfl rfl rfl ?_
                                                refine gx_env (F := [(0, _), (1, _), (2, _), (3, _), (4, _), (5, _), (10, _)]) (.cons rfl (.cons rfl (.cons rfl (.cons rfl (.cons rfl (.cons rfl (.cons rfl .nil))))))) (gx_perm (by first | exact .refl _ | (repeat (first | exact .refl _ | refine perm_take (by first | exact .head | exact .tail .head | exact .tail (.tail .head) | exact .tail (.tail (.tail .head)) | exact .tail (.tail (.tail (.tail .head))) | exact .tail (.tail (.tail (.tail (.tail .head))))) ?_))) (hD18 b5 True.intro))
                                              · skip
                                                refine gs_alloc kze66 rfl rfl rfl (fun b6 => ?_)
                                                refine gx_env (F := [(0, _), (1, _), (2, _), (3, _), (4, _), (5, _), (6, _)]) (.cons rfl (.cons rfl (.cons rfl (.cons rfl (.cons rfl (.cons rfl (.cons rfl .nil))))))) (gx_perm (by first | exact .refl _ | (repeat (first | exact .refl _ | refine perm_take (by first | exact .head | exact .tail .head | exact .tail (.tail .head) | exact .tail (.tail (.tail .head)) | exact .tail (.tail (.tail (.tail .head))) | exact .tail (.tail (.tail (.tail (.tail .head))))) ?_))) (hD20 b5 b6 True.intro))
                                            · skip
                                              refine gs_alloc kze66 rfl rfl rfl (fun b6 => ?_)
                                              refine ga_branch (rs := [0, 2, 4]) (by kernel_rfl) rfl (.cons (ls' := [true, false, false, false, false, true, false, false]) rfl rfl ?_ (.cons (ls' := [false, false, true, false, false, true, false, false]) rfl rfl ?_ (.cons (ls' := [false, false, false, false, true, true, false, false]) rfl rfl ?_ .nil)))
                                              · skip
                                                refine gs_val (val_loadA kag22 rfl (sees_mem (by repeat (first | exact .head _ | refine .tail _ ?_ | refine List.mem_append_right _ ?_))) rfl rfl) rfl rfl rfl ?_
                                                refine gx_env (F := [(0, _), (1, _), (2, _), (3, _), (4, _), (6, _), (8, _)]) (.cons rfl (.cons rfl (.cons rfl (.cons rfl (.cons rfl (.cons rfl (.cons rfl .nil))))))) (gx_perm (by first | exact .refl _ | (repeat (first | exact .refl _ | refine perm_take (by first | exact .head | exact .tail .head | exact .tail (.tail .head) | exact .tail (.tail (.tail .head)) | exact .tail (.tail (.tail (.tail .head))) | exact .tail (.tail (.tail (.tail (.tail .head))))) ?_))) (hD17 b6 True.intro))
                                              · skip
                                                refine gs_val (val_loadA kag22 rfl (sees_mem (by repeat (first | exact .head _ | refine .tail _ ?_ | refine List.mem_append_right _ ?_))) rfl rfl) rfl rfl rfl ?_
                                                refine gx_env (F := [(0, _), (1, _), (2, _), (3, _), (4, _), (6, _), (10, _)]) (.cons rfl (.cons rfl (.cons rfl (.cons rfl (.cons rfl (.cons rfl (.cons rfl .nil))))))) (gx_perm (by first | exact .refl _ | (repeat (first | exact .refl _ | refine perm_take (by first | exact .head | exact .tail .head | exact .tail (.tail .head) | exact .tail (.tail (.tail .head)) | exact .tail (.tail (.tail (.tail .head))) | exact .tail (.tail (.tail (.tail (.tail .head))))) ?_))) (hD19 b6 True.intro))
                                              · skip
                                                refine gs_alloc kze66 rfl rfl rfl (fun b5 => ?_)
                                                refine gx_env (F := [(0, _), (1, _), (2, _), (3, _), (4, _), (5, _), (6, _)]) (.cons rfl (.cons rfl (.cons rfl (.cons rfl (.cons rfl (.cons rfl (.cons rfl .nil))))))) (gx_perm (by first | exact .refl _ | (repeat (first | exact .refl _ | refine perm_take (by first | exact .head | exact .tail .head | exact .tail (.tail .head) | exact .tail (.tail (.tail .head)) | exact .tail (.tail (.tail (.tail .head))) | exact .tail (.tail (.tail (.tail (.tail .head))))) ?_))) (hD20 b5 b6 True.intro))
                                          · rintro b5 b6 _
                                            refine ga_branch (rs := [0, 2]) (by kernel_rfl) rfl (.cons (ls' := [true, false, false, false, true, true, false, false]) rfl rfl ?_ (.cons (ls' := [false, false, true, false, true, true, false, false]) rfl rfl ?_ .nil))
                                            · skip
                                              refine gs_val (val_loadA kag22 rfl (sees_mem (by repeat (first | exact .head _ | refine .tail _ ?_ | refine List.mem_append_right _ ?_))) rfl rfl) rfl rfl rfl ?_
                                              refine gx_env (F := [(0, _), (1, _), (2, _), (3, _), (4, _), (5, _), (6, _), (8, _)]) (.cons rfl (.cons rfl (.cons rfl (.cons rfl (.cons rfl (.cons rfl (.cons rfl (.cons rfl .nil)))))))) (gx_perm (by first | exact .refl _ | (repeat (first | exact .refl _ | refine perm_take (by first | exact .head | exact .tail .head | exact .tail (.tail .head) | exact .tail (.tail (.tail .head)) | exact .tail (.tail (.tail (.tail .head))) | exact .tail (.tail (.tail (.tail (.tail .head))))) ?_))) (hD13 b5 b6 True.intro))
                                            · skip
                                              refine gs_val (val_loadA kag22 rfl (sees_mem (by repeat (first | exact .head _ | refine .tail _ ?_ | refine List.mem_append_right _ ?_))) rfl rfl) rfl rfl rfl ?_
                                              refine gx_env (F := [(0, _), (1, _), (2, _), (3, _), (4, _), (5, _), (6, _), (10, _)]) (.cons rfl (.cons rfl (.cons rfl (.cons rfl (.cons rfl (.cons rfl (.cons rfl (.cons rfl .nil)))))))) (gx_perm (by first | exact .refl _ | (repeat (first | exact .refl _ | refine perm_take (by first | exact .head | exact .tail .head | exact .tail (.tail .head) | exact .tail (.tail (.tail .head)) | exact .tail (.tail (.tail (.tail .head))) | exact .tail (.tail (.tail (.tail (.tail .head))))) ?_))) (hD14 b5 b6 True.intro))
                                        · rintro b6 _
                                          refine ga_branch (rs := [0, 4]) (by kernel_rfl) rfl (.cons (ls' := [true, false, true, false, false, true, false, false]) rfl rfl ?_ (.cons (ls' := [false, false, true, false, true, true, false, false]) rfl rfl ?_ .nil))
                                          · skip
                                            refine gs_val (val_loadA kag22 rfl (sees_mem (by repeat (first | exact .head _ | refine .tail _ ?_ | refine List.mem_append_right _ ?_))) rfl rfl) rfl rfl rfl ?_
                                            refine gx_env (F := [(0, _), (1, _), (2, _), (3, _), (4, _), (6, _), (8, _), (10, _)]) (.cons rfl (.cons rfl (.cons rfl (.cons rfl (.cons rfl (.cons rfl (.cons rfl (.cons rfl .nil)))))))) (gx_perm (by first | exact .refl _ | (repeat (first | exact .refl _ | refine perm_take (by first | exact .head | exact .tail .head | exact .tail (.tail .head) | exact .tail (.tail (.tail .head)) | exact .tail (.tail (.tail (.tail .head))) | exact .tail (.tail (.tail (.tail (.tail .head))))) ?_))) (hD12 b6 True.intro))
                                          · skip
                                            refine gs_alloc kze66 rfl rfl rfl (fun b5 => ?_)
                                            refine gx_env (F := [(0, _), (1, _), (2, _), (3, _), (4, _), (5, _), (6, _), (10, _)]) (.cons rfl (.cons rfl (.cons rfl (.cons rfl (.cons rfl (.cons rfl (.cons rfl (.cons rfl .nil)))))))) (gx_perm (by first | exact .refl _ | (repeat (first | exact .refl _ | refine perm_take (by first | exact .head | exact .tail .head | exact .tail (.tail .head) | exact .tail (.tail (.tail .head)) | exact .tail (.tail (.tail (.tail .head))) | exact .tail (.tail (.tail (.tail (.tail .head))))) ?_))) (hD14 b5 b6 True.intro))
                                      · rintro b5 _
                                        refine ga_branch (rs := [0, 5]) (by kernel_rfl) rfl (.cons (ls' := [true, false, true, false, true, false, false, false]) rfl rfl ?_ (.cons (ls' := [false, false, true, false, true, true, false, false]) rfl rfl ?_ .nil))
                                        · skip
                                          refine gs_val (val_loadA kag22 rfl (sees_mem (by repeat (first | exact .head _ | refine .tail _ ?_ | refine List.mem_append_right _ ?_))) rfl rfl) rfl rfl rfl ?_
                                          refine gx_env (F := [(0, _), (1, _), (2, _), (3, _), (4, _), (5, _), (8, _), (10, _)]) (.cons rfl (.cons rfl (.cons rfl (.cons rfl (.cons rfl (.cons rfl (.cons rfl (.cons rfl .nil)))))))) (gx_perm (by first | exact .refl _ | (repeat (first | exact .refl _ | refine perm_take (by first | exact .head | exact .tail .head | exact .tail (.tail .head) | exact .tail (.tail (.tail .head)) | exact .tail (.tail (.tail (.tail .head))) | exact .tail (.tail (.tail (.tail (.tail .head))))) ?_))) (hD11 b5 True.intro))
                                        · skip
                                          refine gs_alloc kze66 rfl rfl rfl (fun b6 => ?_)
                                          refine gx_env (F := [(0, _), (1, _), (2, _), (3, _), (4, _), (5, _), (6, _), (10, _)]) (.cons rfl (.cons rfl (.cons rfl (.cons rfl (.cons rfl (.cons rfl (.cons rfl (.cons rfl .nil)))))))) (gx_perm (by first | exact .refl _ | (repeat (first | exact .refl _ | refine perm_take (by first | exact .head | exact .tail .head | exact .tail (.tail .head) | exact .tail (.tail (.tail .head)) | exact .tail (.tail (.tail (.tail .head))) | exact .tail (.tail (.tail (.tail (.tail .head))))) ?_))) (hD14 b5 b6 True.intro))
                                    · rintro b6 _
                                      refine ga_branch (rs := [1, 2, 4]) (by kernel_rfl) rfl (.cons (ls' := [true, true, false, false, false, true, false, false]) rfl rfl ?_ (.cons (ls' := [true, false, true, false, false, true, false, false]) rfl rfl ?_ (.cons (ls' := [true, false, false, false, true, true, false, false]) rfl rfl ?_ .nil)))
                                      · skip
                                        refine gs_pure (enters kcall67 (.cons rfl .nil)) (digits_spec a) rfl rfl rfl (fun _ _ => trivial) ?_
                                        refine gx_env (F := [(0, _), (1, _), (2, _), (3, _), (4, _), (6, _), (8, _), (9, _)]) (.cons rfl (.cons rfl (.cons rfl (.cons rfl (.cons rfl (.cons rfl (.cons rfl (.cons rfl .nil)))))))) (gx_perm (by first | exact .refl _ | (repeat (first | exact .refl _ | refine perm_take (by first | exact .head | exact .tail .head | exact .tail (.tail .head) | exact .tail (.tail (.tail .head)) | exact .tail (.tail (.tail (.tail .head))) | exact .tail (.tail (.tail (.tail (.tail .head))))) ?_))) (hD10 b6 True.intro))
                                      · skip
                                        refine gs_val (val_loadA kag22 rfl (sees_mem (by repeat (first | exact .head _ | refine .tail _ ?_ | refine List.mem_append_right _ ?_))) rfl rfl) rfl rfl rfl ?_
                                        refine gx_env (F := [(0, _), (1, _), (2, _), (3, _), (4, _), (6, _), (8, _), (10, _)]) (.cons rfl (.cons rfl (.cons rfl (.cons rfl (.cons rfl (.cons rfl (.cons rfl (.cons rfl .nil)))))))) (gx_perm (by first | exact .refl _ | (repeat (first | exact .refl _ | refine perm_take (by first | exact .head | exact .tail .head | exact .tail (.tail .head) | exact .tail (.tail (.tail .head)) | exact .tail (.tail (.tail (.tail .head))) | exact .tail (.tail (.tail (.tail (.tail .head))))) ?_))) (hD12 b6 True.intro))
                                      · skip
                                        refine gs_alloc kze66 rfl rfl rfl (fun b5 => ?_)
                                        refine gx_env (F := [(0, _), (1, _), (2, _), (3, _), (4, _), (5, _), (6, _), (8, _)]) (.cons rfl (.cons rfl (.cons rfl (.cons rfl (.cons rfl (.cons rfl (.cons rfl (.cons rfl .nil)))))))) (gx_perm (by first | exact .refl _ | (repeat (first | exact .refl _ | refine perm_take (by first | exact .head | exact .tail .head | exact .tail (.tail .head) | exact .tail (.tail (.tail .head)) | exact .tail (.tail (.tail (.tail .head))) | exact .tail (.tail (.tail (.tail (.tail .head))))) ?_))) (hD13 b5 b6 True.intro))
                                  · rintro b5 _
                                    refine ga_branch (rs := [1, 2, 5]) (by kernel_rfl) rfl (.cons (ls' := [true, true, false, false, true, false, false, false]) rfl rfl ?_ (.cons (ls' := [true, false, true, false, true, false, false, false]) rfl rfl ?_ (.cons (ls' := [true, false, false, false, true, true, false, false]) rfl rfl ?_ .nil)))
                                    · skip
                                      refine gs_pure (enters kcall67 (.cons rfl .nil)) (digits_spec a) rfl rfl rfl (fun _ _ => trivial) ?_
                                      refine gx_env (F := [(0, _), (1, _), (2, _), (3, _), (4, _), (5, _), (8, _), (9, _)]) (.cons rfl (.cons rfl (.cons rfl (.cons rfl (.cons rfl (.cons rfl (.cons rfl (.cons rfl .nil)))))))) (gx_perm (by first | exact .refl _ | (repeat (first | exact .refl _ | refine perm_take (by first | exact .head | exact .tail .head | exact .tail (.tail .head) | exact .tail (.tail (.tail .head)) | exact .tail (.tail (.tail (.tail .head))) | exact .tail (.tail (.tail (.tail (.tail .head))))) ?_))) (hD9 b5 True.intro))
                                    · skip
                                      refine gs_val (val_loadA kag22 rfl (sees_mem (by repeat (first | exact .head _ | refine .tail _ ?_ | refine List.mem_append_right _ ?_))) rfl rfl) rfl rfl rfl ?_
                                      refine gx_env (F := [(0, _), (1, _), (2, _), (3, _), (4, _), (5, _), (8, _), (10, _)]) (.cons rfl (.cons rfl (.cons rfl (.cons rfl (.cons rfl (.cons rfl (.cons rfl (.cons rfl .nil)))))))) (gx_perm (by first | exact .refl _ | (repeat (first | exact .refl _ | refine perm_take (by first | exact .head | exact .tail .head | exact .tail (.tail .head) | exact .tail (.tail (.tail .head)) | exact .tail (.tail (.tail (.tail .head))) | exact .tail (.tail (.tail (.tail (.tail .head))))) ?_))) (hD11 b5 True.intro))
                                    · skip
                                      refine gs_alloc kze66 rfl rfl rfl (fun b6 => ?_)
                                      refine gx_env (F := [(0, _), (1, _), (2, _), (3, _), (4, _), (5, _), (6, _), (8, _)]) (.cons rfl (.cons rfl (.cons rfl (.cons rfl (.cons rfl (.cons rfl (.cons rfl (.cons rfl .nil)))))))) (gx_perm (by first | exact .refl _ | (repeat (first | exact .refl _ | refine perm_take (by first | exact .head | exact .tail .head | exact .tail (.tail .head) | exact .tail (.tail (.tail .head)) | exact .tail (.tail (.tail (.tail .head))) | exact .tail (.tail (.tail (.tail (.tail .head))))) ?_))) (hD13 b5 b6 True.intro))
                                · rintro  _
                                  refine ga_branch (rs := [1, 4, 5]) (by kernel_rfl) rfl (.cons (ls' := [true, true, true, false, false, false, false, false]) rfl rfl ?_ (.cons (ls' := [true, false, true, false, true, false, false, false]) rfl rfl ?_ (.cons (ls' := [true, false, true, false, false, true, false, false]) rfl rfl ?_ .nil)))
                                  · skip
                                    refine gs_pure (enters kcall67 (.cons rfl .nil)) (digits_spec a) rfl rfl rfl (fun _ _ => trivial) ?_
                                    refine gx_env (F := [(0, _), (1, _), (2, _), (3, _), (4, _), (8, _), (9, _), (10, _)]) (.cons rfl (.cons rfl (.cons rfl (.cons rfl (.cons rfl (.cons rfl (.cons rfl (.cons rfl .nil)))))))) (gx_perm (by first | exact .refl _ | (repeat (first | exact .refl _ | refine perm_take (by first | exact .head | exact .tail .head | exact .tail (.tail .head) | exact .tail (.tail (.tail .head)) | exact .tail (.tail (.tail (.tail .head))) | exact .tail (.tail (.tail (.tail (.tail .head))))) ?_))) (hD8  True.intro))
                                  · skip
                                    refine gs_alloc kze66 rfl rfl rfl (fun b5 => ?_)
                                    refine gx_env (F := [(0, _), (1, _), (2, _), (3, _), (4, _), (5, _), (8, _), (10, _)]) (.cons rfl (.cons rfl (.cons rfl (.cons rfl (.cons rfl (.cons rfl (.cons rfl (.cons rfl .nil)))))))) (gx_perm (by first | exact .refl _ | (repeat (first | exact .refl _ | refine perm_take (by first | exact .head | exact .tail .head | exact .tail (.tail .head) | exact .tail (.tail (.tail .head)) | exact .tail (.tail (.tail (.tail .head))) | exact .tail (.tail (.tail (.tail (.tail .head))))) ?_))) (hD11 b5 True.intro))
                                  · skip
                                    refine gs_alloc kze66 rfl rfl rfl (fun b6 => ?_)
                                    refine gx_env (F := [(0, _), (1, _), (2, _), (3, _), (4, _), (6, _), (8, _), (10, _)]) (.cons rfl (.cons rfl (.cons rfl (.cons rfl (.cons rfl (.cons rfl (.cons rfl (.cons rfl .nil)))))))) (gx_perm (by first | exact .refl _ | (repeat (first | exact .refl _ | refine perm_take (by first | exact .head | exact .tail .head | exact .tail (.tail .head) | exact .tail (.tail (.tail .head)) | exact .tail (.tail (.tail (.tail .head))) | exact .tail (.tail (.tail (.tail (.tail .head))))) ?_))) (hD12 b6 True.intro))
                              · rintro b5 b6 _
                                refine ga_branch (rs := [0]) (by kernel_rfl) rfl (.cons (ls' := [true, false, true, false, true, true, false, false]) rfl rfl ?_ .nil)
                                refine gs_val (val_loadA kag22 rfl (sees_mem (by repeat (first | exact .head _ | refine .tail _ ?_ | refine List.mem_append_right _ ?_))) rfl rfl) rfl rfl rfl ?_
                                refine gx_env (F := [(0, _), (1, _), (2, _), (3, _), (4, _), (5, _), (6, _), (8, _), (10, _)]) (.cons rfl (.cons rfl (.cons rfl (.cons rfl (.cons rfl (.cons rfl (.cons rfl (.cons rfl (.cons rfl .nil))))))))) (gx_perm (by first | exact .refl _ | (repeat (first | exact .refl _ | refine perm_take (by first | exact .head | exact .tail .head | exact .tail (.tail .head) | exact .tail (.tail (.tail .head)) | exact .tail (.tail (.tail (.tail .head))) | exact .tail (.tail (.tail (.tail (.tail .head))))) ?_))) (hD7 b5 b6 True.intro))
                            · rintro b5 b6 _
                              refine ga_branch (rs := [1, 2]) (by kernel_rfl) rfl (.cons (ls' := [true, true, false, false, true, true, false, false]) rfl rfl ?_ (.cons (ls' := [true, false, true, false, true, true, false, false]) rfl rfl ?_ .nil))
                              · skip
                                refine gs_pure (enters kcall67 (.cons rfl .nil)) (digits_spec a) rfl rfl rfl (fun _ _ => trivial) ?_
                                refine gx_env (F := [(0, _), (1, _), (2, _), (3, _), (4, _), (5, _), (6, _), (8, _), (9, _)]) (.cons rfl (.cons rfl (.cons rfl (.cons rfl (.cons rfl (.cons rfl (.cons rfl (.cons rfl (.cons rfl .nil))))))))) (gx_perm (by first | exact .refl _ | (repeat (first | exact .refl _ | refine perm_take (by first | exact .head | exact .tail .head | exact .tail (.tail .head) | exact .tail (.tail (.tail .head)) | exact .tail (.tail (.tail (.tail .head))) | exact .tail (.tail (.tail (.tail (.tail .head))))) ?_))) (hD6 b5 b6 True.intro))
                              · skip
                                refine gs_val (val_loadA kag22 rfl (sees_mem (by repeat (first | exact .head _ | refine .tail _ ?_ | refine List.mem_append_right _ ?_))) rfl rfl) rfl rfl rfl ?_
                                refine gx_env (F := [(0, _), (1, _), (2, _), (3, _), (4, _), (5, _), (6, _), (8, _), (10, _)]) (.cons rfl (.cons rfl (.cons rfl (.cons rfl (.cons rfl (.cons rfl (.cons rfl (.cons rfl (.cons rfl .nil))))))))) (gx_perm (by first | exact .refl _ | (repeat (first | exact .refl _ | refine perm_take (by first | exact .head | exact .tail .head | exact .tail (.tail .head) | exact .tail (.tail (.tail .head)) | exact .tail (.tail (.tail (.tail .head))) | exact .tail (.tail (.tail (.tail (.tail .head))))) ?_))) (hD7 b5 b6 True.intro))
                          · rintro b6 _
                            refine ga_branch (rs := [1, 4]) (by kernel_rfl) rfl (.cons (ls' := [true, true, true, false, false, true, false, false]) rfl rfl ?_ (.cons (ls' := [true, false, true, false, true, true, false, false]) rfl rfl ?_ .nil))
                            · skip
                              refine gs_pure (enters kcall67 (.cons rfl .nil)) (digits_spec a) rfl rfl rfl (fun _ _ => trivial) ?_
                              refine gx_env (F := [(0, _), (1, _), (2, _), (3, _), (4, _), (6, _), (8, _), (9, _), (10, _)]) (.cons rfl (.cons rfl (.cons rfl (.cons rfl (.cons rfl (.cons rfl (.cons rfl (.cons rfl (.cons rfl .nil))))))))) (gx_perm (by first | exact .refl _ | (repeat (first | exact .refl _ | refine perm_take (by first | exact .head | exact .tail .head | exact .tail (.tail .head) | exact .tail (.tail (.tail .head)) | exact .tail (.tail (.tail (.tail .head))) | exact .tail (.tail (.tail (.tail (.tail .head))))) ?_))) (hD5 b6 True.intro))
                            · skip
                              refine gs_alloc kze66 rfl rfl rfl (fun b5 => ?_)
                              refine gx_env (F := [(0, _), (1, _), (2, _), (3, _), (4, _), (5, _), (6, _), (8, _), (10, _)]) (.cons rfl (.cons rfl (.cons rfl (.cons rfl (.cons rfl (.cons rfl (.cons rfl (.cons rfl (.cons rfl .nil))))))))) (gx_perm (by first | exact .refl _ | (repeat (first | exact .refl _ | refine perm_take (by first | exact .head | exact .tail .head | exact .tail (.tail .head) | exact .tail (.tail (.tail .head)) | exact .tail (.tail (.tail (.tail .head))) | exact .tail (.tail (.tail (.tail (.tail .head))))) ?_))) (hD7 b5 b6 True.intro))
                        · rintro b5 _
                          refine ga_branch (rs := [1, 5]) (by kernel_rfl) rfl (.cons (ls' := [true, true, true, false, true, false, false, false]) rfl rfl ?_ (.cons (ls' := [true, false, true, false, true, true, false, false]) rfl rfl ?_ .nil))
                          · skip
                            refine gs_pure (enters kcall67 (.cons rfl .nil)) (digits_spec a) rfl rfl rfl (fun _ _ => trivial) ?_
                            refine gx_env (F := [(0, _), (1, _), (2, _), (3, _), (4, _), (5, _), (8, _), (9, _), (10, _)]) (.cons rfl (.cons rfl (.cons rfl (.cons rfl (.cons rfl (.cons rfl (.cons rfl (.cons rfl (.cons rfl .nil))))))))) (gx_perm (by first | exact .refl _ | (repeat (first | exact .refl _ | refine perm_take (by first | exact .head | exact .tail .head | exact .tail (.tail .head) | exact .tail (.tail (.tail .head)) | exact .tail (.tail (.tail (.tail .head))) | exact .tail (.tail (.tail (.tail (.tail .head))))) ?_))) (hD4 b5 True.intro))
                          · skip
                            refine gs_alloc kze66 rfl rfl rfl (fun b6 => ?_)
                            refine gx_env (F := [(0, _), (1, _), (2, _), (3, _), (4, _), (5, _), (6, _), (8, _), (10, _)]) (.cons rfl (.cons rfl (.cons rfl (.cons rfl (.cons rfl (.cons rfl (.cons rfl (.cons rfl (.cons rfl .nil))))))))) (gx_perm (by first | exact .refl _ | (repeat (first | exact .refl _ | refine perm_take (by first | exact .head | exact .tail .head | exact .tail (.tail .head) | exact .tail (.tail (.tail .head)) | exact .tail (.tail (.tail (.tail .head))) | exact .tail (.tail (.tail (.tail (.tail .head))))) ?_))) (hD7 b5 b6 True.intro))
                      · rintro b6 _
                        refine ga_branch (rs := [2, 4]) (by kernel_rfl) rfl (.cons (ls' := [true, true, true, false, false, true, false, false]) rfl rfl ?_ (.cons (ls' := [true, true, false, false, true, true, false, false]) rfl rfl ?_ .nil))
                        · skip
                          refine gs_val (val_loadA kag22 rfl (sees_mem (by repeat (first | exact .head _ | refine .tail _ ?_ | refine List.mem_append_right _ ?_))) rfl rfl) rfl rfl rfl ?_
                          refine gx_env (F := [(0, _), (1, _), (2, _), (3, _), (4, _), (6, _), (8, _), (9, _), (10, _)]) (.cons rfl (.cons rfl (.cons rfl (.cons rfl (.cons rfl (.cons rfl (.cons rfl (.cons rfl (.cons rfl .nil))))))))) (gx_perm (by first | exact .refl _ | (repeat (first | exact .refl _ | refine perm_take (by first | exact .head | exact .tail .head | exact .tail (.tail .head) | exact .tail (.tail (.tail .head)) | exact .tail (.tail (.tail (.tail .head))) | exact .tail (.tail (.tail (.tail (.tail .head))))) ?_))) (hD5 b6 True.intro))
                        · skip
                          refine gs_alloc kze66 rfl rfl rfl (fun b5 => ?_)
                          refine gx_env (F := [(0, _), (1, _), (2, _), (3, _), (4, _), (5, _), (6, _), (8, _), (9, _)]) (.cons rfl (.cons rfl (.cons rfl (.cons rfl (.cons rfl (.cons rfl (.cons rfl (.cons rfl (.cons rfl .nil))))))))) (gx_perm (by first | exact .refl _ | (repeat (first | exact .refl _ | refine perm_take (by first | exact .head | exact .tail .head | exact .tail (.tail .head) | exact .tail (.tail (.tail .head)) | exact .tail (.tail (.tail (.tail .head))) | exact .tail (.tail (.tail (.tail (.tail .head))))) ?_))) (hD6 b5 b6 True.intro))
                    · rintro b5 _
                      refine ga_branch (rs := [2, 5]) (by kernel_rfl) rfl (.cons (ls' := [true, true, true, false, true, false, false, false]) rfl rfl ?_ (.cons (ls' := [true, true, false, false, true, true, false, false]) rfl rfl ?_ .nil))
                      · skip
                        refine gs_val (val_loadA kag22 rfl (sees_mem (by repeat (first | exact .head _ | refine .tail _ ?_ | refine List.mem_append_right _ ?_))) rfl rfl) rfl rfl rfl ?_
                        refine gx_env (F := [(0, _), (1, _), (2, _), (3, _), (4, _), (5, _), (8, _), (9, _), (10, _)]) (.cons rfl (.cons rfl (.cons rfl (.cons rfl (.cons rfl (.cons rfl (.cons rfl (.cons rfl (.cons rfl .nil))))))))) (gx_perm (by first | exact .refl _ | (repeat (first | exact .refl _ | refine perm_take (by first | exact .head | exact .tail .head | exact .tail (.tail .head) | exact .tail (.tail (.tail .head)) | exact .tail (.tail (.tail (.tail .head))) | exact .tail (.tail (.tail (.tail (.tail .head))))) ?_))) (hD4 b5 True.intro))
                      · skip
                        refine gs_alloc kze66 rfl rfl rfl (fun b6 => ?_)
                        refine gx_env (F := [(0, _), (1, _), (2, _), (3, _), (4, _), (5, _), (6, _), (8, _), (9, _)]) (.cons rfl (.cons rfl (.cons rfl (.cons rfl (.cons rfl (.cons rfl (.cons rfl (.cons rfl (.cons rfl .nil))))))))) (gx_perm (by first | exact .refl _ | (repeat (first | exact .refl _ | refine perm_take (by first | exact .head | exact .tail .head | exact .tail (.tail .head) | exact .tail (.tail (.tail .head)) | exact .tail (.tail (.tail (.tail .head))) | exact .tail (.tail (.tail (.tail (.tail .head))))) ?_))) (hD6 b5 b6 True.intro))
                  · rintro  _
                    refine ga_branch (rs := [3, 4, 5]) (by kernel_rfl) rfl (.cons (ls' := [true, true, true, true, false, false, false, false]) rfl rfl ?_ (.cons (ls' := [true, true, true, false, true, false, false, false]) rfl rfl ?_ (.cons (ls' := [true, true, true, false, false, true, false, false]) rfl rfl ?_ .nil)))
                    · skip
                      refine gs_pure (enters kcall67 (.cons rfl .nil)) (digits_spec b) rfl rfl rfl (fun _ _ => trivial) ?_
                      refine ga_branch (rs := [4, 5]) (by kernel_rfl) rfl (.cons (ls' := [true, true, true, true, true, false, false, false]) rfl rfl ?_ (.cons (ls' := [true, true, true, true, false, true, false, false]) rfl rfl ?_ .nil))
                      · skip
                        refine gs_alloc kze66 rfl rfl rfl (fun b5 => ?_)
                        refine gx_env (F := [(0, _), (1, _), (2, _), (3, _), (4, _), (5, _), (8, _), (9, _), (10, _), (11, _)]) (.cons rfl (.cons rfl (.cons rfl (.cons rfl (.cons rfl (.cons rfl (.cons rfl (.cons rfl (.cons rfl (.cons rfl .nil)))))))))) (gx_perm (by first | exact .refl _ | (repeat (first | exact .refl _ | refine perm_take (by first | exact .head | exact .tail .head | exact .tail (.tail .head) | exact .tail (.tail (.tail .head)) | exact .tail (.tail (.tail (.tail .head))) | exact .tail (.tail (.tail (.tail (.tail .head))))) ?_))) (hD1 b5 True.intro))
                      · skip
                        refine gs_alloc kze66 rfl rfl rfl (fun b6 => ?_)
                        refine gx_env (F := [(0, _), (1, _), (2, _), (3, _), (4, _), (6, _), (8, _), (9, _), (10, _), (11, _)]) (.cons rfl (.cons rfl (.cons rfl (.cons rfl (.cons rfl (.cons rfl (.cons rfl (.cons rfl (.cons rfl (.cons rfl .nil)))))))))) (gx_perm (by first | exact .refl _ | (repeat (first | exact .refl _ | refine perm_take (by first | exact .head | exact .tail .head | exact .tail (.tail .head) | exact .tail (.tail (.tail .head)) | exact .tail (.tail (.tail (.tail .head))) | exact .tail (.tail (.tail (.tail (.tail .head))))) ?_))) (hD2 b6 True.intro))
                    · skip
                      refine gs_alloc kze66 rfl rfl rfl (fun b5 => ?_)
                      refine gx_env (F := [(0, _), (1, _), (2, _), (3, _), (4, _), (5, _), (8, _), (9, _), (10, _)]) (.cons rfl (.cons rfl (.cons rfl (.cons rfl (.cons rfl (.cons rfl (.cons rfl (.cons rfl (.cons rfl .nil))))))))) (gx_perm (by first | exact .refl _ | (repeat (first | exact .refl _ | refine perm_take (by first | exact .head | exact .tail .head | exact .tail (.tail .head) | exact .tail (.tail (.tail .head)) | exact .tail (.tail (.tail (.tail .head))) | exact .tail (.tail (.tail (.tail (.tail .head))))) ?_))) (hD4 b5 True.intro))
                    · skip
                      refine gs_alloc kze66 rfl rfl rfl (fun b6 => ?_)
                      refine gx_env (F := [(0, _), (1, _), (2, _), (3, _), (4, _), (6, _), (8, _), (9, _), (10, _)]) (.cons rfl (.cons rfl (.cons rfl (.cons rfl (.cons rfl (.cons rfl (.cons rfl (.cons rfl (.cons rfl .nil))))))))) (gx_perm (by first | exact .refl _ | (repeat (first | exact .refl _ | refine perm_take (by first | exact .head | exact .tail .head | exact .tail (.tail .head) | exact .tail (.tail (.tail .head)) | exact .tail (.tail (.tail (.tail .head))) | exact .tail (.tail (.tail (.tail (.tail .head))))) ?_))) (hD5 b6 True.intro))
                · rintro b5 b6 _
                  refine ga_branch (rs := [1]) (by kernel_rfl) rfl (.cons (ls' := [true, true, true, false, true, true, false, false]) rfl rfl ?_ .nil)
                  refine gs_pure (enters kcall67 (.cons rfl .nil)) (digits_spec a) rfl rfl rfl (fun _ _ => trivial) ?_
                  refine gx_env (F := [(0, _), (1, _), (2, _), (3, _), (4, _), (5, _), (6, _), (8, _), (9, _), (10, _)]) (.cons rfl (.cons rfl (.cons rfl (.cons rfl (.cons rfl (.cons rfl (.cons rfl (.cons rfl (.cons rfl (.cons rfl .nil)))))))))) (gx_perm (by first | exact .refl _ | (repeat (first | exact .refl _ | refine perm_take (by first | exact .head | exact .tail .head | exact .tail (.tail .head) | exact .tail (.tail (.tail .head)) | exact .tail (.tail (.tail (.tail .head))) | exact .tail (.tail (.tail (.tail (.tail .head))))) ?_))) (hD3 b5 b6 True.intro))
              · rintro b5 b6 _
                refine ga_branch (rs := [2]) (by kernel_rfl) rfl (.cons (ls' := [true, true, true, false, true, true, false, false]) rfl rfl ?_ .nil)
                refine gs_val (val_loadA kag22 rfl (sees_mem (by repeat (first | exact .head _ | refine .tail _ ?_ | refine List.mem_append_right _ ?_))) rfl rfl) rfl rfl rfl ?_
                refine gx_env (F := [(0, _), (1, _), (2, _), (3, _), (4, _), (5, _), (6, _), (8, _), (9, _), (10, _)]) (.cons rfl (.cons rfl (.cons rfl (.cons rfl (.cons rfl (.cons rfl (.cons rfl (.cons rfl (.cons rfl (.cons rfl .nil)))))))))) (gx_perm (by first | exact .refl _ | (repeat (first | exact .refl _ | refine perm_take (by first | exact .head | exact .tail .head | exact .tail (.tail .head) | exact .tail (.tail (.tail .head)) | exact .tail (.tail (.tail (.tail .head))) | exact .tail (.tail (.tail (.tail (.tail .head))))) ?_))) (hD3 b5 b6 True.intro))
            · rintro b6 _
              refine ga_branch (rs := [3, 4]) (by kernel_rfl) rfl (.cons (ls' := [true, true, true, true, false, true, false, false]) rfl rfl ?_ (.cons (ls' := [true, true, true, false, true, true, false, false]) rfl rfl ?_ .nil))
              · skip
                refine gs_pure (enters kcall67 (.cons rfl .nil)) (digits_spec b) rfl rfl rfl (fun _ _ => trivial) ?_
                refine gx_env (F := [(0, _), (1, _), (2, _), (3, _), (4, _), (6, _), (8, _), (9, _), (10, _), (11, _)]) (.cons rfl (.cons rfl (.cons rfl (.cons rfl (.cons rfl (.cons rfl (.cons rfl (.cons rfl (.cons rfl (.cons rfl .nil)))))))))) (gx_perm (by first | exact .refl _ | (repeat (first | exact .refl _ | refine perm_take (by first | exact .head | exact .tail .head | exact .tail (.tail .head) | exact .tail (.tail (.tail .head)) | exact .tail (.tail (.tail (.tail .head))) | exact .tail (.tail (.tail (.tail (.tail .head))))) ?_))) (hD2 b6 True.intro))
              · skip
                refine gs_alloc kze66 rfl rfl rfl (fun b5 => ?_)
                refine gx_env (F := [(0, _), (1, _), (2, _), (3, _), (4, _), (5, _), (6, _), (8, _), (9, _), (10, _)]) (.cons rfl (.cons rfl (.cons rfl (.cons rfl (.cons rfl (.cons rfl (.cons rfl (.cons rfl (.cons rfl (.cons rfl .nil)))))))))) (gx_perm (by first | exact .refl _ | (repeat (first | exact .refl _ | refine perm_take (by first | exact .head | exact .tail .head | exact .tail (.tail .head) | exact .tail (.tail (.tail .head)) | exact .tail (.tail (.tail (.tail .head))) | exact .tail (.tail (.tail (.tail (.tail .head))))) ?_))) (hD3 b5 b6 True.intro))
          · rintro b5 _
            refine ga_branch (rs := [3, 5]) (by kernel_rfl) rfl (.cons (ls' := [true, true, true, true, true, false, false, false]) rfl rfl ?_ (.cons (ls' := [true, true, true, false, true, true, false, false]) rfl rfl ?_ .nil))
            · skip
              refine gs_pure (enters kcall67 (.cons rfl .nil)) (digits_spec b) rfl rfl rfl (fun _ _ => trivial) ?_
              refine gx_env (F := [(0, _), (1, _), (2, _), (3, _), (4, _), (5, _), (8, _), (9, _), (10, _), (11, _)]) (.cons rfl (.cons rfl (.cons rfl (.cons rfl (.cons rfl (.cons rfl (.cons rfl (.cons rfl (.cons rfl (.cons rfl .nil)))))))))) (gx_perm (by first | exact .refl _ | (repeat (first | exact .refl _ | refine perm_take (by first | exact .head | exact .tail .head | exact .tail (.tail .head) | exact .tail (.tail (.tail .head)) | exact .tail (.tail (.tail (.tail .head))) | exact .tail (.tail (.tail (.tail (.tail .head))))) ?_))) (hD1 b5 True.intro))
            · skip
              refine gs_alloc kze66 rfl rfl rfl (fun b6 => ?_)
              refine gx_env (F := [(0, _), (1, _), (2, _), (3, _), (4, _), (5, _), (6, _), (8, _), (9, _), (10, _)]) (.cons rfl (.cons rfl (.cons rfl (.cons rfl (.cons rfl (.cons rfl (.cons rfl (.cons rfl (.cons rfl (.cons rfl .nil)))))))))) (gx_perm (by first | exact .refl _ | (repeat (first | exact .refl _ | refine perm_take (by first | exact .head | exact .tail .head | exact .tail (.tail .head) | exact .tail (.tail (.tail .head)) | exact .tail (.tail (.tail (.tail .head))) | exact .tail (.tail (.tail (.tail (.tail .head))))) ?_))) (hD3 b5 b6 True.intro))
        · rintro b5 b6 _
          refine ga_branch (rs := [3]) (by kernel_rfl) rfl (.cons (ls' := [true, true, true, true, true, true, false, false]) rfl rfl ?_ .nil)
          refine gs_pure (enters kcall67 (.cons rfl .nil)) (digits_spec b) rfl rfl rfl (fun _ _ => trivial) ?_
          refine gx_env (F := [(0, _), (1, _), (2, _), (3, _), (4, _), (5, _), (6, _), (8, _), (9, _), (10, _), (11, _)]) (.cons rfl (.cons rfl (.cons rfl (.cons rfl (.cons rfl (.cons rfl (.cons rfl (.cons rfl (.cons rfl (.cons rfl (.cons rfl .nil))))))))))) (gx_perm (by first | exact .refl _ | (repeat (first | exact .refl _ | refine perm_take (by first | exact .head | exact .tail .head | exact .tail (.tail .head) | exact .tail (.tail (.tail .head)) | exact .tail (.tail (.tail (.tail .head))) | exact .tail (.tail (.tail (.tail (.tail .head))))) ?_))) (hD0 b5 b6 True.intro))
      · rintro b6 _
        refine ga_branch (rs := [4]) (by kernel_rfl) rfl (.cons (ls' := [true, true, true, true, true, true, false, false]) rfl rfl ?_ .nil)
        refine gs_alloc kze66 rfl rfl rfl (fun b5 => ?_)
        refine gx_env (F := [(0, _), (1, _), (2, _), (3, _), (4, _), (5, _), (6, _), (8, _), (9, _), (10, _), (11, _)]) (.cons rfl (.cons rfl (.cons rfl (.cons rfl (.cons rfl (.cons rfl (.cons rfl (.cons rfl (.cons rfl (.cons rfl (.cons rfl .nil))))))))))) (gx_perm (by first | exact .refl _ | (repeat (first | exact .refl _ | refine perm_take (by first | exact .head | exact .tail .head | exact .tail (.tail .head) | exact .tail (.tail (.tail .head)) | exact .tail (.tail (.tail (.tail .head))) | exact .tail (.tail (.tail (.tail (.tail .head))))) ?_))) (hD0 b5 b6 True.intro))
    · rintro b5 _
      refine ga_branch (rs := [5]) (by kernel_rfl) rfl (.cons (ls' := [true, true, true, true, true, true, false, false]) rfl rfl ?_ .nil)
      refine gs_alloc kze66 rfl rfl rfl (fun b6 => ?_)
      refine gx_env (F := [(0, _), (1, _), (2, _), (3, _), (4, _), (5, _), (6, _), (8, _), (9, _), (10, _), (11, _)]) (.cons rfl (.cons rfl (.cons rfl (.cons rfl (.cons rfl (.cons rfl (.cons rfl (.cons rfl (.cons rfl (.cons rfl (.cons rfl .nil))))))))))) (gx_perm (by first | exact .refl _ | (repeat (first | exact .refl _ | refine perm_take (by first | exact .head | exact .tail .head | exact .tail (.tail .head) | exact .tail (.tail (.tail .head)) | exact .tail (.tail (.tail (.tail .head))) | exact .tail (.tail (.tail (.tail (.tail .head))))) ?_))) (hD0 b5 b6 True.intro))
  · rintro b5 b6 _
    refine ga_branch (rs := [6]) (by kernel_rfl) rfl (.cons (ls' := [true, true, true, true, true, true, true, false]) rfl rfl ?_ .nil)
    refine gs_store ksz66 rfl rfl rfl rfl rfl rfl (by first | exact .head | exact .tail .head | exact .tail (.tail .head) | exact .tail (.tail (.tail .head)) | exact .tail (.tail (.tail (.tail .head))) | exact .tail (.tail (.tail (.tail (.tail .head))))) (by simp) (by first | ((with_reducible refine splice_all _ _ ?_); simp; done) | (simp only [splice, stL, digL, List.take_succ_cons, List.take_zero, List.drop_succ_cons, List.drop_zero, List.length_cons, List.length_nil, Nat.reduceAdd, Nat.reduceMul, Nat.zero_add, Nat.zero_mul, List.cons_append, List.nil_append]; exact rfl)) ?_
    refine ga_branch (rs := [7]) (by kernel_rfl) rfl (.cons (ls' := [true, true, true, true, true, true, true, true]) rfl rfl ?_ .nil)
    refine gs_store ksz66 rfl rfl rfl rfl rfl rfl (by first | exact .head | exact .tail .head | exact .tail (.tail .head) | exact .tail (.tail (.tail .head)) | exact .tail (.tail (.tail (.tail .head))) | exact .tail (.tail (.tail (.tail (.tail .head))))) (by simp) (by first | ((with_reducible refine splice_all _ _ ?_); simp; done) | (simp only [splice, stL, digL, List.take_succ_cons, List.take_zero, List.drop_succ_cons, List.drop_zero, List.length_cons, List.length_nil, Nat.reduceAdd, Nat.reduceMul, Nat.zero_add, Nat.zero_mul, List.cons_append, List.nil_append]; exact rfl)) ?_
    refine ga_done (by kernel_rfl) ?_
    refine gk_seq ?_
    refine gc_seq ?_
    refine gc_seq ?_
    refine gc_region ?_
    refine gl_cons (gs_val (val_assign rfl) rfl rfl rfl ?_)
    refine gl_nil ?_
    refine gk_seq ?_
    refine gc_block ?_
    refine gc_loop (σ := Nat) (I := fun k => k ≤ 18 ∧ ∀ j, j < k → ¬ dgc b j < dgc a j) (μ := fun k => 18 - k) (EI := fun k => [(7, I64 (k : Int)), (5, .pointer (some ⟨b5, 0, none⟩)), (6, .pointer (some ⟨b6, 0, none⟩))]) (LI := fun k => [⟨b6, .cells (dgL b).toArray 66 (0, 0)⟩, ⟨b5, .cells (dgL a).toArray 66 (0, 0)⟩, ⟨b3, .cells (digL b).toArray 22 (0, 0)⟩, ⟨b2, .cells (digL a).toArray 22 (0, 0)⟩]) 0 ?_ ?_ ?_ ?_
    · exact ⟨Nat.zero_le _, fun j hj => absurd hj (Nat.not_lt_zero j)⟩
    · exact (.cons rfl (.cons rfl (.cons rfl .nil)))
    · exact fun _ h => h
    · intro k ⟨hI, hno⟩
      have hI : k ≤ 18 := hI
      have hno : ∀ j, j < k → ¬ dgc b j < dgc a j := hno
      refine gc_seq ?_
      refine gc_seq ?_
      refine gc_region ?_
      refine gl_cons (gs_val (val_move rfl) rfl rfl rfl ?_)
      refine gl_cons (gs_val (val_lss rfl rfl) rfl rfl rfl ?_)
      refine gl_nil ?_
      refine gk_seq ?_
      refine gc_if rfl (fun hk => ?_) (fun hk => ?_)
      · have hk : k < 18 := by omega
        refine gc_skip ?_
        refine gk_seq ?_
        refine gc_seq ?_
        refine gc_block ?_
        refine gc_seq ?_
        refine gc_drawAll kmixed (by kernel_rfl) ?_
        refine gq_val (val_move rfl) rfl rfl rfl ?_
        refine gq_val (val_indexArr kar66 rfl rfl rfl (by omega)) rfl rfl rfl ?_
        refine gq_val (val_load1 (v := I64 (dgc a k : Int)) kag3 rfl (sees_mem (by repeat (first | exact .head _ | refine .tail _ ?_ | refine List.mem_append_right _ ?_))) (dgL_get a k (by omega))) rfl rfl rfl ?_
        refine gq_val (val_move rfl) rfl rfl rfl ?_
        refine gq_val (val_indexArr kar66 rfl rfl rfl (by omega)) rfl rfl rfl ?_
        refine gq_val (val_load1 (v := I64 (dgc b k : Int)) kag3 rfl (sees_mem (by repeat (first | exact .head _ | refine .tail _ ?_ | refine List.mem_append_right _ ?_))) (dgL_get b k (by omega))) rfl rfl rfl ?_
        refine gq_val (val_gtr rfl rfl) rfl rfl rfl ?_
        refine gq_nil ?_
        refine gl_nil ?_
        refine gk_seq ?_
        refine gc_if rfl (fun h26 => ?_) (fun h26 => ?_)
        · have hfin := ahead_some a b k hk (by omega) hno
          refine gc_seq ?_
          refine gc_region ?_
          refine gl_cons (gs_val (val_move rfl) rfl rfl rfl ?_)
          refine gl_cons (gs_val (val_assign rfl) rfl rfl rfl ?_)
          refine gl_nil ?_
          refine gk_seq ?_
          refine gc_ret ?_
          refine gk_block_ret ?_
          refine gk_seq_ret ?_
          refine gk_loop_ret ?_
          refine gk_block_ret ?_
          refine gk_seq_ret ?_
          refine gk_ret rfl (resv_tmp rfl .nil) (List.nil_sublist _) ?_
          exact ⟨congrArg I64 hfin.symm, rfl⟩
        · have h26' : ¬ dgc b k < dgc a k := by omega
          refine gc_skip ?_
          refine gk_block ?_
          refine gk_seq ?_
          refine gc_region ?_
          refine gl_cons (gs_val (val_move rfl) rfl rfl rfl ?_)
          refine gl_cons (gs_val (val_addI rfl rfl (by omega)) rfl rfl rfl ?_)
          refine gl_cons (gs_val (val_assign rfl) rfl rfl rfl ?_)
          refine gl_nil ?_
          refine gk_again (k + 1) ?_ ?_ ?_ ?_
          · exact ⟨by show k + 1 ≤ 18; omega, fun j hj => by rcases Nat.lt_or_ge j k with h | h; exact hno j h; obtain rfl : j = k := (by omega); omega⟩
          · show 18 - (k + 1) < 18 - k; omega
          · exact (.cons (rfl) (.cons (rfl) (.cons (rfl) .nil)))
          · exact fun _ h => h
      · have e : k = 18 := by omega
        subst e
        have hfin := ahead_none a b hno
        refine gc_exit ?_
        refine gk_seq_exit ?_
        refine gk_loop_exit ?_
        refine gk_block_exit ?_
        refine gk_seq ?_
        refine gc_seq ?_
        refine gc_region ?_
        refine gl_cons (gs_val (val_assign rfl) rfl rfl rfl ?_)
        refine gl_nil ?_
        refine gk_seq ?_
        refine gc_ret ?_
        refine gk_ret rfl (resv_tmp rfl .nil) (List.nil_sublist _) ?_
        exact ⟨congrArg I64 hfin.symm, rfl⟩

set_option maxRecDepth 8000 in
/-- baize/baizelaw05.OnceAhead -/
theorem onceAhead_walk (a b : BitVec 64) : Pure Try.prog 18 ([Dig a, Dig b]).toArray (fun _ => True) (.bool true) := by
  refine spec_walk (n := 85) Try.func18 rfl rfl rfl (fun w0 hpre => ?_)
  refine gc_seq ?_
  refine gc_region ?_
  refine gl_cons (gs_box rfl rfl rfl rfl (fun b2 => ?_))
  refine gl_cons (gs_box rfl rfl rfl rfl (fun b3 => ?_))
  refine gl_cons (gs_val (val_assign rfl) rfl rfl rfl ?_)
  refine gl_nil ?_
  refine gk_seq ?_
  refine gc_seq ?_
  refine gc_drawAll kmixed (by kernel_rfl) ?_
  refine gq_val (val_loadA kag22 rfl (sees_mem (by repeat (first | exact .head _ | refine .tail _ ?_ | refine List.mem_append_right _ ?_))) rfl rfl) rfl rfl rfl ?_
  refine gq_val (val_loadA kag22 rfl (sees_mem (by repeat (first | exact .head _ | refine .tail _ ?_ | refine List.mem_append_right _ ?_))) rfl rfl) rfl rfl rfl ?_
  refine gq_pure (enters kcall74 (.cons rfl (.cons rfl .nil))) (ahead_spec a b) rfl rfl rfl (fun _ _ => trivial) ?_
  refine gq_val (val_loadA kag22 rfl (sees_mem (by repeat (first | exact .head _ | refine .tail _ ?_ | refine List.mem_append_right _ ?_))) rfl rfl) rfl rfl rfl ?_
  refine gq_val (val_loadA kag22 rfl (sees_mem (by repeat (first | exact .head _ | refine .tail _ ?_ | refine List.mem_append_right _ ?_))) rfl rfl) rfl rfl rfl ?_
  refine gq_pure (enters kcall74 (.cons rfl (.cons rfl .nil))) (ahead_spec b a) rfl rfl rfl (fun _ _ => trivial) ?_
  refine gq_val (val_assign rfl) rfl rfl rfl ?_
  refine gq_val (val_assign rfl) rfl rfl rfl ?_
  refine gq_nil ?_
  refine gl_nil ?_
  refine gk_seq ?_
  refine gc_seq ?_
  refine gc_seq ?_
  refine gc_region ?_
  refine gl_cons (gs_val (val_move rfl) rfl rfl rfl ?_)
  refine gl_cons (gs_val (val_loadA kag22 rfl (sees_mem (by repeat (first | exact .head _ | refine .tail _ ?_ | refine List.mem_append_right _ ?_))) rfl rfl) rfl rfl rfl ?_)
  refine gl_cons (gs_val (val_loadA kag22 rfl (sees_mem (by repeat (first | exact .head _ | refine .tail _ ?_ | refine List.mem_append_right _ ?_))) rfl rfl) rfl rfl rfl ?_)
  refine gl_cons (gs_pure (enters kcall75 (.cons rfl (.cons rfl .nil))) (rahead_spec a b) rfl rfl rfl (fun _ _ => trivial) ?_)
  refine gl_cons (gs_val (val_no (val_neq rfl rfl) (fun h => h rfl)) rfl rfl rfl ?_)
  refine gl_cons (gs_val (val_move rfl) rfl rfl rfl ?_)
  refine gl_cons (gs_val (val_move rfl) rfl rfl rfl ?_)
  refine gl_cons (gs_val (val_loadA kag22 rfl (sees_mem (by repeat (first | exact .head _ | refine .tail _ ?_ | refine List.mem_append_right _ ?_))) rfl rfl) rfl rfl rfl ?_)
  refine gl_cons (gs_val (val_loadA kag22 rfl (sees_mem (by repeat (first | exact .head _ | refine .tail _ ?_ | refine List.mem_append_right _ ?_))) rfl rfl) rfl rfl rfl ?_)
  refine gl_cons (gs_pure (enters kcall75 (.cons rfl (.cons rfl .nil))) (rahead_spec b a) rfl rfl rfl (fun _ _ => trivial) ?_)
  refine gl_cons (gs_val (val_no (val_neq rfl rfl) (fun h => h rfl)) rfl rfl rfl ?_)
  refine gl_cons (gs_val (val_pick_f rfl rfl) rfl rfl rfl ?_)
  refine gl_cons (gs_val (val_move rfl) rfl rfl rfl ?_)
  refine gl_cons (gs_val (val_loadA kag22 rfl (sees_mem (by repeat (first | exact .head _ | refine .tail _ ?_ | refine List.mem_append_right _ ?_))) rfl rfl) rfl rfl rfl ?_)
  refine gl_cons (gs_val (val_loadA kag22 rfl (sees_mem (by repeat (first | exact .head _ | refine .tail _ ?_ | refine List.mem_append_right _ ?_))) rfl rfl) rfl rfl rfl ?_)
  refine gl_cons (gs_pure (enters kcall74 (.cons rfl (.cons rfl .nil))) (ahead_spec a a) rfl rfl rfl (fun _ _ => trivial) ?_)
  refine gl_cons (gs_val (val_no (val_neq rfl rfl) (fun h => h (ahead_self a))) rfl rfl rfl ?_)
  refine gl_cons (gs_val (val_pick_f rfl rfl) rfl rfl rfl ?_)
  refine gl_nil ?_
  refine gk_seq ?_
  refine gc_false rfl ?_
  refine gc_skip ?_
  refine gk_seq ?_
  refine gc_seq ?_
  refine gc_seq ?_
  refine gc_region ?_
  refine gl_cons (gs_val (val_loadA kag22 rfl (sees_mem (by repeat (first | exact .head _ | refine .tail _ ?_ | refine List.mem_append_right _ ?_))) rfl rfl) rfl rfl rfl ?_)
  refine gl_cons (gs_val (val_loadA kag22 rfl (sees_mem (by repeat (first | exact .head _ | refine .tail _ ?_ | refine List.mem_append_right _ ?_))) rfl rfl) rfl rfl rfl ?_)
  refine gl_cons (gs_val (val_eqlDig kdig22 rfl rfl rfl rfl) rfl rfl rfl ?_)
  refine gl_nil ?_
  refine gk_seq ?_
  refine gc_if rfl (fun h35 => ?_) (fun h35 => ?_)
  · skip
    refine gc_seq ?_
    refine gc_region ?_
    refine gl_cons (gs_pure (enters kcall60 .nil) (known05_spec) rfl rfl rfl (fun _ _ => trivial) ?_)
    refine gl_cons (gs_val (val_move rfl) rfl rfl rfl ?_)
    refine gl_cons (gs_val (val_move rfl) rfl rfl rfl ?_)
    refine gl_cons (gs_val (val_yes (val_eql rfl rfl) (by rw [h35]; exact ahead_self b)) rfl rfl rfl ?_)
    refine gl_cons (gs_val (val_pick_t rfl rfl) rfl rfl rfl ?_)
    refine gl_cons (gs_val (val_assign rfl) rfl rfl rfl ?_)
    refine gl_nil ?_
    refine gk_seq ?_
    refine gc_ret ?_
    refine gk_seq_ret ?_
    refine gk_ret rfl (resv_tmp rfl .nil) (List.nil_sublist _) ?_
    exact ⟨rfl, rfl⟩
  · obtain ⟨x, hx, hxe, hxl⟩ := ahead_of_ne a b h35
    obtain ⟨y, hy, hye, hyl⟩ := ahead_of_ne b a (fun e => h35 e.symm)
    refine gc_skip ?_
    refine gk_seq ?_
    refine gc_seq ?_
    refine ga_start (m := 8) (ls := [false, false, false, false, false, false, false, false]) kmixed rfl rfl ?_
    apply share2 (α := Nat) (β := Nat) (m' := 2) (ls' := [true, true, true, true, true, true, false, false])
    · intro hD0
      apply share1 (α := Nat) (m' := 3) (ls' := [true, true, true, true, true, false, false, false])
      · intro hD1
        apply share1 (α := Nat) (m' := 3) (ls' := [true, true, true, true, false, true, false, false])
        · intro hD2
          apply share2 (α := Nat) (β := Nat) (m' := 3) (ls' := [true, true, true, false, true, true, false, false])
          · intro hD3
            apply share1 (α := Nat) (m' := 4) (ls' := [true, true, true, false, true, false, false, false])
            · intro hD4
              apply share1 (α := Nat) (m' := 4) (ls' := [true, true, true, false, false, true, false, false])
              · intro hD5
                apply share2 (α := Nat) (β := Nat) (m' := 4) (ls' := [true, true, false, false, true, true, false, false])
                · intro hD6
                  apply share2 (α := Nat) (β := Nat) (m' := 4) (ls' := [true, false, true, false, true, true, false, false])
                  · intro hD7
                    apply share0  (m' := 5) (ls' := [true, true, true, false, false, false, false, false])
                    · intro hD8
                      apply share1 (α := Nat) (m' := 5) (ls' := [true, true, false, false, true, false, false, false])
                      · intro hD9
                        apply share1 (α := Nat) (m' := 5) (ls' := [true, true, false, false, false, true, false, false])
                        · intro hD10
                          apply share1 (α := Nat) (m' := 5) (ls' := [true, false, true, false, true, false, false, false])
                          · intro hD11
                            apply share1 (α := Nat) (m' := 5) (ls' := [true, false, true, false, false, true, false, false])
                            · intro hD12
                              apply share2 (α := Nat) (β := Nat) (m' := 5) (ls' := [true, false, false, false, true, true, false, false])
                              · intro hD13
                                apply share2 (α := Nat) (β := Nat) (m' := 5) (ls' := [false, false, true, false, true, true, false, false])
                                · intro hD14
                                  apply share0  (m' := 6) (ls' := [true, false, true, false, false, false, false, false])
                                  · intro hD15
                                    apply share1 (α := Nat) (m' := 6) (ls' := [true, false, false, false, true, false, false, false])
                                    · intro hD16
                                      apply share1 (α := Nat) (m' := 6) (ls' := [true, false, false, false, false, true, false, false])
                                      · intro hD17
                                        apply share1 (α := Nat) (m' := 6) (ls' := [false, false, true, false, true, false, false, false])
                                        · intro hD18
                                          apply share1 (α := Nat) (m' := 6) (ls' := [false, false, true, false, false, true, false, false])
                                          · intro hD19
                                            apply share2 (α := Nat) (β := Nat) (m' := 6) (ls' := [false, false, false, false, true, true, false, false])
                                            · intro hD20
                                              refine ga_branch (rs := [0, 2, 4, 5]) (by kernel_rfl) rfl (.cons (ls' := [true, false, false, false, false, false, false, false]) rfl rfl ?_ (.cons (ls' := [false, false, true, false, false, false, false, false]) rfl rfl ?_ (.cons (ls' := [false, false, false, false, true, false, false, false]) rfl rfl ?_ (.cons (ls' := [false, false, false, false, false, true, false, false]) rfl rfl ?_ .nil))))
                                              · skip
                                                refine gs_val (val_loadA kag22 rfl (sees_mem (by repeat (first | exact .head _ | refine .tail _ ?_ | refine List.mem_append_right _ ?_))) rfl rfl) rfl rfl rfl ?_
                                                refine ga_branch (rs := [1, 2, 4, 5]) (by kernel_rfl) rfl (.cons (ls' := [true, true, false, false, false, false, false, false]) rfl rfl ?_ (.cons (ls' := [true, false, true, false, false, false, false, false]) rfl rfl ?_ (.cons (ls' := [true, false, false, false, true, false, false, false]) rfl rfl ?_ (.cons (ls' := [true, false, false, false, false, true, false, false]) rfl rfl ?_ .nil))))
                                                · skip
                                                  refine gs_pure (enters kcall66 (.cons rfl .nil)) (reach_spec a) rfl rfl rfl (fun _ _ => trivial) ?_
                                                  refine ga_branch (rs := [2, 4, 5]) (by kernel_rfl) rfl (.cons (ls' := [true, true, true, false, false, false, false, false]) rfl rfl ?_ (.cons (ls' := [true, true, false, false, true, false, false, false]) rfl rfl ?_ (.cons (ls' := [true, true, false, false, false, true, false, false]) rfl rfl ?_ .nil)))
                                                  · skip
                                                    refine gs_val (val_loadA kag22 rfl (sees_mem (by repeat (first | exact .head _ | refine .tail _ ?_ | refine List.mem_append_right _ ?_))) rfl rfl) rfl rfl rfl ?_
                                                    refine gx_env (F := [(0, _), (1, _), (2, _), (3, _), (4, _), (5, _), (6, _), (9, _), (10, _), (11, _), (12, _), (13, _), (14, _), (15, _), (16, _), (17, _), (18, _), (19, _), (20, _), (21, _), (22, _), (23, _), (24, _), (25, _), (26, _), (27, _), (28, _), (29, _), (30, _), (31, _), (32, _), (33, _), (34, _), (35, _), (41, _), (42, _), (43, _)]) (.cons rfl (.cons rfl (.cons rfl (.cons rfl (.cons rfl (.cons rfl (.cons rfl (.cons rfl (.cons rfl (.cons rfl (.cons rfl (.cons rfl (.cons rfl (.cons rfl (.cons rfl (.cons rfl (.cons rfl (.cons rfl (.cons rfl (.cons rfl (.cons rfl (.cons rfl (.cons rfl (.cons rfl (.cons rfl (.cons rfl (.cons rfl (.cons rfl (.cons rfl (.cons rfl (.cons rfl (.cons rfl (.cons rfl (.cons rfl (.cons rfl (.cons rfl (.cons rfl .nil))))))))))))))))))))))))))))))))))))) (gx_perm (by first | exact .refl _ | (repeat (first | exact .refl _ | refine perm_take (by first | exact .head | exact .tail .head | exact .tail (.tail .head) | exact .tail (.tail (.tail .head)) | exact .tail (.tail (.tail (.tail .head))) | exact .tail (.tail (.tail (.tail (.tail .head))))) ?_))) (hD8  True.intro))
                                                  · skip
                                                    refine gs_alloc kze66 rfl rfl rfl (fun b7 => ?_)
                                                    refine gx_env (F := [(0, _), (1, _), (2, _), (3, _), (4, _), (5, _), (6, _), (7, _), (9, _), (10, _), (11, _), (12, _), (13, _), (14, _), (15, _), (16, _), (17, _), (18, _), (19, _), (20, _), (21, _), (22, _), (23, _), (24, _), (25, _), (26, _), (27, _), (28, _), (29, _), (30, _), (31, _), (32, _), (33, _), (34, _), (35, _), (41, _), (42, _)]) (.cons rfl (.cons rfl (.cons rfl (.cons rfl (.cons rfl (.cons rfl (.cons rfl (.cons rfl (.cons rfl (.cons rfl (.cons rfl (.cons rfl (.cons rfl (.cons rfl (.cons rfl (.cons rfl (.cons rfl (.cons rfl (.cons rfl (.cons rfl (.cons rfl (.cons rfl (.cons rfl (.cons rfl (.cons rfl (.cons rfl (.cons rfl (.cons rfl (.cons rfl (.cons rfl (.cons rfl (.cons rfl (.cons rfl (.cons rfl (.cons rfl (.cons rfl (.cons rfl .nil))))))))))))))))))))))))))))))))))))) (gx_perm (by first | exact .refl _ | (repeat (first | exact .refl _ | refine perm_take (by first | exact .head | exact .tail .head | exact .tail (.tail .head) | exact .tail (.tail (.tail .head)) | exact .tail (.tail (.tail (.tail .head))) | exact .tail (.tail (.tail (.tail (.tail .head))))) ?_))) (hD9 b7 True.intro))
                                                  · skip
                                                    refine gs_alloc kze66 rfl rfl rfl (fun b8 => ?_)
                                                    refine gx_env (F := [(0, _), (1, _), (2, _), (3, _), (4, _), (5, _), (6, _), (8, _), (9, _), (10, _), (11, _), (12, _), (13, _), (14, _), (15, _), (16, _), (17, _), (18, _), (19, _), (20, _), (21, _), (22, _), (23, _), (24, _), (25, _), (26, _), (27, _), (28, _), (29, _), (30, _), (31, _), (32, _), (33, _), (34, _), (35, _), (41, _), (42, _)]) (.cons rfl (.cons rfl (.cons rfl (.cons rfl (.cons rfl (.cons rfl (.cons rfl (.cons rfl (.cons rfl (.cons rfl (.cons rfl (.cons rfl (.cons rfl (.cons rfl (.cons rfl (.cons rfl (.cons rfl (.cons rfl (.cons rfl (.cons rfl (.cons rfl (.cons rfl (.cons rfl (.cons rfl (.cons rfl (.cons rfl (.cons rfl (.cons rfl (.cons rfl (.cons rfl (.cons rfl (.cons rfl (.cons rfl (.cons rfl (.cons rfl (.cons rfl (.cons rfl .nil))))))))))))))))))))))))))))))))))))) (gx_perm (by first | exact .refl _ | (repeat (first | exact .refl _ | refine perm_take (by first | exact .head | exact .tail .head | exact .tail (.tail .head) | exact .tail (.tail (.tail .head)) | exact .tail (.tail (.tail (.tail .head))) | exact .tail (.tail (.tail (.tail (.tail .head))))) ?_))) (hD10 b8 True.intro))
                                                · skip
                                                  refine gs_val (val_loadA kag22 rfl (sees_mem (by repeat (first | exact .head _ | refine .tail _ ?_ | refine List.mem_append_right _ ?_))) rfl rfl) rfl rfl rfl ?_
                                                  refine gx_env (F := [(0, _), (1, _), (2, _), (3, _), (4, _), (5, _), (6, _), (9, _), (10, _), (11, _), (12, _), (13, _), (14, _), (15, _), (16, _), (17, _), (18, _), (19, _), (20, _), (21, _), (22, _), (23, _), (24, _), (25, _), (26, _), (27, _), (28, _), (29, _), (30, _), (31, _), (32, _), (33, _), (34, _), (35, _), (41, _), (43, _)]) (.cons rfl (.cons rfl (.cons rfl (.cons rfl (.cons rfl (.cons rfl (.cons rfl (.cons rfl (.cons rfl (.cons rfl (.cons rfl (.cons rfl (.cons rfl (.cons rfl (.cons rfl (.cons rfl (.cons rfl (.cons rfl (.cons rfl (.cons rfl (.cons rfl (.cons rfl (.cons rfl (.cons rfl (.cons rfl (.cons rfl (.cons rfl (.cons rfl (.cons rfl (.cons rfl (.cons rfl (.cons rfl (.cons rfl (.cons rfl (.cons rfl (.cons rfl .nil)))))))))))))))))))))))))))))))))))) (gx_perm (by first | exact .refl _ | (repeat (first | exact .refl _ | refine perm_take (by first | exact .head | exact .tail .head | exact .tail (.tail .head) | exact .tail (.tail (.tail .head)) | exact .tail (.tail (.tail (.tail .head))) | exact .tail (.tail (.tail (.tail (.tail .head))))) ?_))) (hD15  True.intro))
                                                · skip
                                                  refine gs_alloc kze66 rfl rfl rfl (fun b7 => ?_)
                                                  refine gx_env (F := [(0, _), (1, _), (2, _), (3, _), (4, _), (5, _), (6, _), (7, _), (9, _), (10, _), (11, _), (12, _), (13, _), (14, _), (15, _), (16, _), (17, _), (18, _), (19, _), (20, _), (21, _), (22, _), (23, _), (24, _), (25, _), (26, _), (27, _), (28, _), (29, _), (30, _), (31, _), (32, _), (33, _), (34, _), (35, _), (41, _)]) (.cons rfl (.cons rfl (.cons rfl (.cons rfl (.cons rfl (.cons rfl (.cons rfl (.cons rfl (.cons rfl (.cons rfl (.cons rfl (.cons rfl (.cons rfl (.cons rfl (.cons rfl (.cons rfl (.cons rfl (.cons rfl (.cons rfl (.cons rfl (.cons rfl (.cons rfl (.cons rfl (.cons rfl (.cons rfl (.cons rfl (.cons rfl (.cons rfl (.cons rfl (.cons rfl (.cons rfl (.cons rfl (.cons rfl (.cons rfl (.cons rfl (.cons rfl .nil)))))))))))))))))))))))))))))))))))) (gx_perm (by first | exact .refl _ | (repeat (first | exact .refl _ | refine perm_take (by first | exact .head | exact .tail .head | exact .tail (.tail .head) | exact .tail (.tail (.tail .head)) | exact .tail (.tail (.tail (.tail .head))) | exact .tail (.tail (.tail (.tail (.tail .head))))) ?_))) (hD16 b7 True.intro))
                                                · skip
                                                  refine gs_alloc kze66 rfl rfl rfl (fun b8 => ?_)
                                                  refine gx_env (F := [(0, _), (1, _), (2, _), (3, _), (4, _), (5, _), (6, _), (8, _), (9, _), (10, _), (11, _), (12, _), (13, _), (14, _), (15, _), (16, _), (17, _), (18, _), (19, _), (20, _), (21, _), (22, _), (23, _), (24, _), (25, _), (26, _), (27, _), (28, _), (29, _), (30, _), (31, _), (32, _), (33, _), (34, _), (35, _), (41, _)]) (.cons rfl (.cons rfl (.cons rfl (.cons rfl (.cons rfl (.cons rfl (.cons rfl (.cons rfl (.cons rfl (.cons rfl (.cons rfl (.cons rfl (.cons rfl (.cons rfl (.cons rfl (.cons rfl (.cons rfl (.cons rfl (.cons rfl (.cons rfl (.cons rfl (.cons rfl (.cons rfl (.cons rfl (.cons rfl (.cons rfl (.cons rfl (.cons rfl (.cons rfl (.cons rfl (.cons rfl (.cons rfl (.cons rfl (.cons rfl (.cons rfl (.cons rfl .nil)))))))))))))))))))))))))))))))))))) (gx_perm (by first | exact .refl _ | (repeat (first | exact .refl _ | refine perm_take (by first | exact .head | exact .tail .head | exact .tail (.tail .head) | exact .tail (.tail (.tail .head)) | exact .tail (.tail (.tail (.tail .head))) | exact .tail (.tail (.tail (.tail (.tail .head))))) ?_))) (hD17 b8 True.intro))
                                              · skip
                                                refine gs_val (val_loadA kag22 rfl (sees_mem (by repeat (first | exact .head _ | refine .tail _ ?_ | refine List.mem_append_right _ ?_))) rfl rfl) rfl rfl rfl ?_
                                                refine ga_branch (rs := [0, 4, 5]) (by kernel_rfl) rfl (.cons (ls' := [true, false, true, false, false, false, false, false]) rfl rfl ?_ (.cons (ls' := [false, false, true, false, true, false, false, false]) rfl rfl ?_ (.cons (ls' := [false, false, true, false, false, true, false, false]) rfl rfl ?_ .nil)))
                                                · skip
                                                  refine gs_val (val_loadA kag22 rfl (sees_mem (by repeat (first | exact .head _ | refine .tail _ ?_ | refine List.mem_append_right _ ?_))) rfl rfl) rfl rfl rfl ?_
                                                  refine gx_env (F := [(0, _), (1, _), (2, _), (3, _), (4, _), (5, _), (6, _), (9, _), (10, _), (11, _), (12, _), (13, _), (14, _), (15, _), (16, _), (17, _), (18, _), (19, _), (20, _), (21, _), (22, _), (23, _), (24, _), (25, _), (26, _), (27, _), (28, _), (29, _), (30, _), (31, _), (32, _), (33, _), (34, _), (35, _), (41, _), (43, _)]) (.cons rfl (.cons rfl (.cons rfl (.cons rfl (.cons rfl (.cons rfl (.cons rfl (.cons rfl (.cons rfl (.cons rfl (.cons rfl (.cons rfl (.cons rfl (.cons rfl (.cons rfl (.cons rfl (.cons rfl (.cons rfl (.cons rfl (.cons rfl (.cons rfl (.cons rfl (.cons rfl (.cons rfl (.cons rfl (.cons rfl (.cons rfl (.cons rfl (.cons rfl (.cons rfl (.cons rfl (.cons rfl (.cons rfl (.cons rfl (.cons rfl (.cons rfl .nil)))))))))))))))))))))))))))))))))))) (gx_perm (by first | exact .refl _ | (repeat (first | exact .refl _ | refine perm_take (by first | exact .head | exact .tail .head | exact .tail (.tail .head) | exact .tail (.tail (.tail .head)) | exact .tail (.tail (.tail (.tail .head))) | exact .tail (.tail (.tail (.tail (.tail .head))))) ?_))) (hD15  True.intro))
                                                · skip
                                                  refine gs_alloc kze66 rfl rfl rfl (fun b7 => ?_)
                                                  refine gx_env (F := [(0, _), (1, _), (2, _), (3, _), (4, _), (5, _), (6, _), (7, _), (9, _), (10, _), (11, _), (12, _), (13, _), (14, _), (15, _), (16, _), (17, _), (18, _), (19, _), (20, _), (21, _), (22, _), (23, _), (24, _), (25, _), (26, _), (27, _), (28, _), (29, _), (30, _), (31, _), (32, _), (33, _), (34, _), (35, _), (43, _)]) (.cons rfl (.cons rfl (.cons rfl (.cons rfl (.cons rfl (.cons rfl (.cons rfl (.cons rfl (.cons rfl (.cons rfl (.cons rfl (.cons rfl (.cons rfl (.cons rfl (.cons rfl (.cons rfl (.cons rfl (.cons rfl (.cons rfl (.cons rfl (.cons rfl (.cons rfl (.cons rfl (.cons rfl (.cons rfl (.cons rfl (.cons rfl (.cons rfl (.cons rfl (.cons rfl (.cons rfl (.cons rfl (.cons rfl (.cons rfl (.cons rfl (.cons rfl .nil)))))))))))))))))))))))))))))))))))) (gx_perm (by first | exact .refl _ | (repeat (first | exact .refl _ | refine perm_take (by first | exact .head | exact .tail .head | exact .tail (.tail .head) | exact .tail (.tail (.tail .head)) | exact .tail (.tail (.tail (.tail .head))) | exact .tail (.tail (.tail (.tail (.tail .head))))) ?_))) (hD18 b7 True.intro))
                                                · skip
                                                  refine gs_alloc kze66 rfl rfl rfl (fun b8 => ?_)
                                                  refine gx_env (F := [(0, _), (1, _), (2, _), (3, _), (4, _), (5, _), (6, _), (8, _), (9, _), (10, _), (11, _), (12, _), (13, _), (14, _), (15, _), (16, _), (17, _), (18, _), (19, _), (20, _), (21, _), (22, _), (23, _), (24, _), (25, _), (26, _), (27, _), (28, _), (29, _), (30, _), (31, _), (32, _), (33, _), (34, _), (35, _), (43, _)]) (.cons rfl (.cons rfl (.cons rfl (.cons rfl (.cons rfl (.cons rfl (.cons rfl (.cons rfl (.cons rfl (.cons rfl (.cons rfl (.cons rfl (.cons rfl (.cons rfl (.cons rfl (.cons rfl (.cons rfl (.cons rfl (.cons rfl (.cons rfl (.cons rfl (.cons rfl (.cons rfl (.cons rfl (.cons rfl (.cons rfl (.cons rfl (.cons rfl (.cons rfl (.cons rfl (.cons rfl (.cons rfl (.cons rfl (.cons rfl (.cons rfl (.cons rfl .nil)))))))))))))))))))))))))))))))))))) (gx_perm (by first | exact .refl _ | (repeat (first | exact .refl _ | refine perm_take (by first | exact .head | exact .tail .head | exact .tail (.tail .head) | exact .tail (.tail (.tail .head)) | exact .tail (.tail (.tail (.tail .head))) | exact .tail (.tail (.tail (.tail (.tail .head))))) ?_))) (hD19 b8 True.intro))
                                              · skip
                                                refine gs_alloc kze66 rfl rfl rfl (fun b7 => ?_)
                                                refine ga_branch (rs := [0, 2, 5]) (by kernel_rfl) rfl (.cons (ls' := [true, false, false, false, true, false, false, false]) rfl rfl ?_ (.cons (ls' := [false, false, true, false, true, false, false, false]) rfl rfl ?_ (.cons (ls' := [false, false, false, false, true, true, false, false]) rfl rfl ?_ .nil)))
                                                · skip
                                                  refine gs_val (val_loadA kag22 rfl (sees_mem (by repeat (first | exact .head _ | refine .tail _ ?_ | refine List.mem_append_right _ ?_))) rfl rfl) rfl rfl rfl ?_
                                                  refine gx_env (F := [(0, _), (1, _), (2, _), (3, _), (4, _), (5, _), (6, _), (7, _), (9, _), (10, _), (11, _), (12, _), (13, _), (14, _), (15, _), (16, _), (17, _), (18, _), (19, _), (20, _), (21, _), (22, _), (23, _), (24, _), (25, _), (26, _), (27, _), (28, _), (29, _), (30, _), (31, _), (32, _), (33, _), (34, _), (35, _), (41, _)]) (.cons rfl (.cons rfl (.cons rfl (.cons rfl (.cons rfl (.cons rfl (.cons rfl (.cons rfl (.cons rfl (.cons rfl (.cons rfl (.cons rfl (.cons rfl (.cons rfl (.cons rfl (.cons rfl (.cons rfl (.cons rfl (.cons rfl (.cons rfl (.cons rfl (.cons rfl (.cons rfl (.cons rfl (.cons rfl (.cons rfl (.cons rfl (.cons rfl (.cons rfl (.cons rfl (.cons rfl (.cons rfl (.cons rfl (.cons rfl (.cons rfl (.cons rfl .nil)))))))))))))))))))))))))))))))))))) (gx_perm (by first | exact .refl _ | (repeat (first | exact .refl _ | refine perm_take (by first | exact .head | exact .tail .head | exact .tail (.tail .head) | exact .tail (.tail (.tail .head)) | exact .tail (.tail (.tail (.tail .head))) | exact .tail (.tail (.tail (.tail (.tail .head))))) ?_))) (hD16 b7 True.intro))
                                                · skip
                                                  refine gs_val (val_loadA kag22 rfl (sees_mem (by repeat (first | exact .head _ | refine .tail _ ?_ | refine List.mem_append_right _ ?_))) rfl rfl) rfl rfl rfl ?_
                                                  refine gx_env (F := [(0, _), (1, _), (2, _), (3, _), (4, _), (5, _), (6, _), (7, _), (9, _), (10, _), (11, _), (12, _), (13, _), (14, _), (15, _), (16, _), (17, _), (18, _), (19, _), (20, _), (21, _), (22, _), (23, _), (24, _), (25, _), (26, _), (27, _), (28, _), (29, _), (30, _), (31, _), (32, _), (33, _), (34, _), (35, _), (43, _)]) (.cons rfl (.cons rfl (.cons rfl (.cons rfl (.cons rfl (.cons rfl (.cons rfl (.cons rfl (.cons rfl (.cons rfl (.cons rfl (.cons rfl (.cons rfl (.cons rfl (.cons rfl (.cons rfl (.cons rfl (.cons rfl (.cons rfl (.cons rfl (.cons rfl (.cons rfl (.cons rfl (.cons rfl (.cons rfl (.cons rfl (.cons rfl (.cons rfl (.cons rfl (.cons rfl (.cons rfl (.cons rfl (.cons rfl (.cons rfl (.cons rfl (.cons rfl .nil)))))))))))))))))))))))))))))))))))) (gx_perm (by first | exact .refl _ | (repeat (first | exact .refl _ | refine perm_take (by first | exact .head | exact .tail .head | exact .tail (.tail .head) | exact .tail (.tail (.tail .head)) | exact .tail (.tail (.tail (.tail .head))) | exact .tail (.tail (.tail (.tail (.tail .head))))) ?_))) (hD18 b7 True.intro))
                                                · skip
                                                  refine gs_alloc kze66 rfl rfl rfl (fun b8 => ?_)
                                                  refine gx_env (F := [(0, _), (1, _), (2, _), (3, _), (4, _), (5, _), (6, _), (7, _), (8, _), (9, _), (10, _), (11, _), (12, _), (13, _), (14, _), (15, _), (16, _), (17, _), (18, _), (19, _), (20, _), (21, _), (22, _), (23, _), (24, _), (25, _), (26, _), (27, _), (28, _), (29, _), (30, _), (31, _), (32, _), (33, _), (34, _), (35, _)]) (.cons rfl (.cons rfl (.cons rfl (.cons rfl (.cons rfl (.cons rfl (.cons rfl (.cons rfl (.cons rfl (.cons rfl (.cons rfl (.cons rfl (.cons rfl (.cons rfl (.cons rfl (.cons rfl (.cons rfl (.cons rfl (.cons rfl (.cons rfl (.cons rfl (.cons rfl (.cons rfl (.cons rfl (.cons rfl (.cons rfl (.cons rfl (.cons rfl (.cons rfl (.cons rfl (.cons rfl (.cons rfl (.cons rfl (.cons rfl (.cons rfl (.cons rfl .nil)))))))))))))))))))))))))))))))))))) (gx_perm (by first | exact .refl _ | (repeat (first | exact .refl _ | refine perm_take (by first | exact .head | exact .tail .head | exact .tail (.tail .head) | exact .tail (.tail (.tail .head)) | exact .tail (.tail (.tail (.tail .head))) | exact .tail (.tail (.tail (.tail (.tail .head))))) ?_))) (hD20 b7 b8 True.intro))
                                              · skip
                                                refine gs_alloc kze66 rfl rfl rfl (fun b8 => ?_)
                                                refine ga_branch (rs := [0, 2, 4]) (by kernel_rfl) rfl (.cons (ls' := [true, false, false, false, false, true, false, false]) rfl rfl ?_ (.cons (ls' := [false, false, true, false, false, true, false, false]) rfl rfl ?_ (.cons (ls' := [false, false, false, false, true, true, false, false]) rfl rfl ?_ .nil)))
                                                · skip
                                                  refine gs_val (val_loadA kag22 rfl (sees_mem (by repeat (first | exact .head _ | refine .tail _ ?_ | refine List.mem_append_right _ ?_))) rfl rfl) rfl rfl rfl ?_
                                                  refine gx_env (F := [(0, _), (1, _), (2, _), (3, _), (4, _), (5, _), (6, _), (8, _), (9, _), (10, _), (11, _), (12, _), (13, _), (14, _), (15, _), (16, _), (17, _), (18, _), (19, _), (20, _), (21, _), (22, _), (23, _), (24, _), (25, _), (26, _), (27, _), (28, _), (29, _), (30, _), (31, _), (32, _), (33, _), (34, _), (35, _), (41, _)]) (.cons rfl (.cons rfl (.cons rfl (.cons rfl (.cons rfl (.cons rfl (.cons rfl (.cons rfl (.cons rfl (.cons rfl (.cons rfl (.cons rfl (.cons rfl (.cons rfl (.cons rfl (.cons rfl (.cons rfl (.cons rfl (.cons rfl (.cons rfl (.cons rfl (.cons rfl (.cons rfl (.cons rfl (.cons rfl (.cons rfl (.cons rfl (.cons rfl (.cons rfl (.cons rfl (.cons rfl (.cons rfl (.cons rfl (.cons rfl (.cons rfl (.cons rfl .nil)))))))))))))))))))))))))))))))))))) (gx_perm (by first | exact .refl _ | (repeat (first | exact .refl _ | refine perm_take (by first | exact .head | exact .tail .head | exact .tail (.tail .head) | exact .tail (.tail (.tail .head)) | exact .tail (.tail (.tail (.tail .head))) | exact .tail (.tail (.tail (.tail (.tail .head))))) ?_))) (hD17 b8 True.intro))
                                                · skip
                                                  refine gs_val (val_loadA kag22 rfl (sees_mem (by repeat (first | exact .head _ | refine .tail _ ?_ | refine List.mem_append_right _ ?_))) rfl rfl) rfl rfl rfl ?_
                                                  refine gx_env (F := [(0, _), (1, _), (2, _), (3, _), (4, _), (5, _), (6, _), (8, _), (9, _), (10, _), (11, _), (12, _), (13, _), (14, _), (15, _), (16, _), (17, _), (18, _), (19, _), (20, _), (21, _), (22, _), (23, _), (24, _), (25, _), (26, _), (27, _), (28, _), (29, _), (30, _), (31, _), (32, _), (33, _), (34, _), (35, _), (43, _)]) (.cons rfl (.cons rfl (.cons rfl (.cons rfl (.cons rfl (.cons rfl (.cons rfl (.cons rfl (.cons rfl (.cons rfl (.cons rfl (.cons rfl (.cons rfl (.cons rfl (.cons rfl (.cons rfl (.cons rfl (.cons rfl (.cons rfl (.cons rfl (.cons rfl (.cons rfl (.cons rfl (.cons rfl (.cons rfl (.cons rfl (.cons rfl (.cons rfl (.cons rfl (.cons rfl (.cons rfl (.cons rfl (.cons rfl (.cons rfl (.cons rfl (.cons rfl .nil)))))))))))))))))))))))))))))))))))) (gx_perm (by first | exact .refl _ | (repeat (first | exact .refl _ | refine perm_take (by first | exact .head | exact .tail .head | exact .tail (.tail .head) | exact .tail (.tail (.tail .head)) | exact .tail (.tail (.tail (.tail .head))) | exact .tail (.tail (.tail (.tail (.tail .head))))) ?_))) (hD19 b8 True.intro))
                                                · skip
                                                  refine gs_alloc kze66 rfl rfl rfl (fun b7 => ?_)
                                                  refine gx_env (F := [(0, _), (1, _), (2, _), (3, _), (4, _), (5, _), (6, _), (7, _), (8, _), (9, _), (10, _), (11, _), (12, _), (13, _), (14, _), (15, _), (16, _), (17, _), (18, _), (19, _), (20, _), (21, _), (22, _), (23, _), (24, _), (25, _), (26, _), (27, _), (28, _), (29, _), (30, _), (31, _), (32, _), (33, _), (34, _), (35, _)]) (.cons rfl (.cons rfl (.cons rfl (.cons rfl (.cons rfl (.cons rfl (.cons rfl (.cons rfl (.cons rfl (.cons rfl (.cons rfl (.cons rfl (.cons rfl (.cons rfl (.cons rfl (.cons rfl (.cons rfl (.cons rfl (.cons rfl (.cons rfl (.cons rfl (.cons rfl (.cons rfl (.cons rfl (.cons rfl (.cons rfl (.cons rfl (.cons rfl (.cons rfl (.cons rfl (.cons rfl (.cons rfl (.cons rfl (.cons rfl (.cons rfl (.cons rfl .nil)))))))))))))))))))))))))))))))))))) (gx_perm (by first | exact .refl _ | (repeat (first | exact .refl _ | refine perm_take (by first | exact .head | exact .tail .head | exact .tail (.tail .head) | exact .tail (.tail (.tail .head)) | exact .tail (.tail (.tail (.tail .head))) | exact .tail (.tail (.tail (.tail (.tail .head))))) ?_))) (hD20 b7 b8 True.intro))
                                            · rintro b7 b8 _
                                              refine ga_branch (rs := [0, 2]) (by kernel_rfl) rfl (.cons (ls' := [true, false, false, false, true, true, false, false]) rfl rfl ?_ (.cons (ls' := [false, false, true, false, true, true, false, false]) rfl rfl ?_ .nil))
                                              · skip
                                                refine gs_val (val_loadA kag22 rfl (sees_mem (by repeat (first | exact .head _ | refine .tail _ ?_ | refine List.mem_append_right _ ?_))) rfl rfl) rfl rfl rfl ?_
                                                refine gx_env (F := [(0, _), (1, _), (2, _), (3, _), (4, _), (5, _), (6, _), (7, _), (8, _), (9, _), (10, _), (11, _), (12, _), (13, _), (14, _), (15, _), (16, _), (17, _), (18, _), (19, _), (20, _), (21, _), (22, _), (23, _), (24, _), (25, _), (26, _), (27, _), (28, _), (29, _), (30, _), (31, _), (32, _), (33, _), (34, _), (35, _), (41, _)]) (.cons rfl (.cons rfl (.cons rfl (.cons rfl (.cons rfl (.cons rfl (.cons rfl (.cons rfl (.cons rfl (.cons rfl (.cons rfl (.cons rfl (.cons rfl (.cons rfl (.cons rfl (.cons rfl (.cons rfl (.cons rfl (.cons rfl (.cons rfl (.cons rfl (.cons rfl (.cons rfl (.cons rfl (.cons rfl (.cons rfl (.cons rfl (.cons rfl (.cons rfl (.cons rfl (.cons rfl (.cons rfl (.cons rfl (.cons rfl (.cons rfl (.cons rfl (.cons rfl .nil))))))))))))))))))))))))))))))))))))) (gx_perm (by first | exact .refl _ | (repeat (first | exact .refl _ | refine perm_take (by first | exact .head | exact .tail .head | exact .tail (.tail .head) | exact .tail (.tail (.tail .head)) | exact .tail (.tail (.tail (.tail .head))) | exact .tail (.tail (.tail (.tail (.tail .head))))) ?_))) (hD13 b7 b8 True.intro))
                                              · skip
                                                refine gs_val (val_loadA kag22 rfl (sees_mem (by repeat (first | exact .head _ | refine .tail _ ?_ | refine List.mem_append_right _ ?_))) rfl rfl) rfl rfl rfl ?_
                                                refine gx_env (F := [(0, _), (1, _), (2, _), (3, _), (4, _), (5, _), (6, _), (7, _), (8, _), (9, _), (10, _), (11, _), (12, _), (13, _), (14, _), (15, _), (16, _), (17, _), (18, _), (19, _), (20, _), (21, _), (22, _), (23, _), (24, _), (25, _), (26, _), (27, _), (28, _), (29, _), (30, _), (31, _), (32, _), (33, _), (34, _), (35, _), (43, _)]) (.cons rfl (.cons rfl (.cons rfl (.cons rfl (.cons rfl (.cons rfl (.cons rfl (.cons rfl (.cons rfl (.cons rfl (.cons rfl (.cons rfl (.cons rfl (.cons rfl (.cons rfl (.cons rfl (.cons rfl (.cons rfl (.cons rfl (.cons rfl (.cons rfl (.cons rfl (.cons rfl (.cons rfl (.cons rfl (.cons rfl (.cons rfl (.cons rfl (.cons rfl (.cons rfl (.cons rfl (.cons rfl (.cons rfl (.cons rfl (.cons rfl (.cons rfl (.cons rfl .nil))))))))))))))))))))))))))))))))))))) (gx_perm (by first | exact .refl _ | (repeat (first | exact .refl _ | refine perm_take (by first | exact .head | exact .tail .head | exact .tail (.tail .head) | exact .tail (.tail (.tail .head)) | exact .tail (.tail (.tail (.tail .head))) | exact .tail (.tail (.tail (.tail (.tail .head))))) ?_))) (hD14 b7 b8 True.intro))
                                          · rintro b8 _
                                            refine ga_branch (rs := [0, 4]) (by kernel_rfl) rfl (.cons (ls' := [true, false, true, false, false, true, false, false]) rfl rfl ?_ (.cons (ls' := [false, false, true, false, true, true, false, false]) rfl rfl ?_ .nil))
                                            · skip
                                              refine gs_val (val_loadA kag22 rfl (sees_mem (by repeat (first | exact .head _ | refine .tail _ ?_ | refine List.mem_append_right _ ?_))) rfl rfl) rfl rfl rfl ?_
                                              refine gx_env (F := [(0, _), (1, _), (2, _), (3, _), (4, _), (5, _), (6, _), (8, _), (9, _), (10, _), (11, _), (12, _), (13, _), (14, _), (15, _), (16, _), (17, _), (18, _), (19, _), (20, _), (21, _), (22, _), (23, _), (24, _), (25, _), (26, _), (27, _), (28, _), (29, _), (30, _), (31, _), (32, _), (33, _), (34, _), (35, _), (41, _), (43, _)]) (.cons rfl (.cons rfl (.cons rfl (.cons rfl (.cons rfl (.cons rfl (.cons rfl (.cons rfl (.cons rfl (.cons rfl (.cons rfl (.cons rfl (.cons rfl (.cons rfl (.cons rfl (.cons rfl (.cons rfl (.cons rfl (.cons rfl (.cons rfl (.cons rfl (.cons rfl (.cons rfl (.cons rfl (.cons rfl (.cons rfl (.cons rfl (.cons rfl (.cons rfl (.cons rfl (.cons rfl (.cons rfl (.cons rfl (.cons rfl (.cons rfl (.cons rfl (.cons rfl .nil))))))))))))))))))))))))))))))))))))) (gx_perm (by first | exact .refl _ | (repeat (first | exact .refl _ | refine perm_take (by first | exact .head | exact .tail .head | exact .tail (.tail .head) | exact .tail (.tail (.tail .head)) | exact .tail (.tail (.tail (.tail .head))) | exact .tail (.tail (.tail (.tail (.tail .head))))) ?_))) (hD12 b8 True.intro))
                                            · skip
                                              refine gs_alloc kze66 rfl rfl rfl (fun b7 => ?_)
                                              refine gx_env (F := [(0, _), (1, _), (2, _), (3, _), (4, _), (5, _), (6, _), (7, _), (8, _), (9, _), (10, _), (11, _), (12, _), (13, _), (14, _), (15, _), (16, _), (17, _), (18, _), (19, _), (20, _), (21, _), (22, _), (23, _), (24, _), (25, _), (26, _), (27, _), (28, _), (29, _), (30, _), (31, _), (32, _), (33, _), (34, _), (35, _), (43, _)]) (.cons rfl (.cons rfl (.cons rfl (.cons rfl (.cons rfl (.cons rfl (.cons rfl (.cons rfl (.cons rfl (.cons rfl (.cons rfl (.cons rfl (.cons rfl (.cons rfl (.cons rfl (.cons rfl (.cons rfl (.cons rfl (.cons rfl (.cons rfl (.cons rfl (.cons rfl (.cons rfl (.cons rfl (.cons rfl (.cons rfl (.cons rfl (.cons rfl (.cons rfl (.cons rfl (.cons rfl (.cons rfl (.cons rfl (.cons rfl (.cons rfl (.cons rfl (.cons rfl .nil))))))))))))))))))))))))))))))))))))) (gx_perm (by first | exact .refl _ | (repeat (first | exact .refl _ | refine perm_take (by first | exact .head | exact .tail .head | exact .tail (.tail .head) | exact .tail (.tail (.tail .head)) | exact .tail (.tail (.tail (.tail .head))) | exact .tail (.tail (.tail (.tail (.tail .head))))) ?_))) (hD14 b7 b8 True.intro))
                                        · rintro b7 _
                                          refine ga_branch (rs := [0, 5]) (by kernel_rfl) rfl (.cons (ls' := [true, false, true, false, true, false, false, false]) rfl rfl ?_ (.cons (ls' := [false, false, true, false, true, true, false, false]) rfl rfl ?_ .nil))
                                          · skip
                                            refine gs_val (val_loadA kag22 rfl (sees_mem (by repeat (first | exact .head _ | refine .tail _ ?_ | refine List.mem_append_right _ ?_))) rfl rfl) rfl rfl rfl ?_
                                            refine gx_env (F := [(0, _), (1, _), (2, _), (3, _), (4, _), (5, _), (6, _), (7, _), (9, _), (10, _), (11, _), (12, _), (13, _), (14, _), (15, _), (16, _), (17, _), (18, _), (19, _), (20, _), (21, _), (22, _), (23, _), (24, _), (25, _), (26, _), (27, _), (28, _), (29, _), (30, _), (31, _), (32, _), (33, _), (34, _), (35, _), (41, _), (43, _)]) (.cons rfl (.cons rfl (.cons rfl (.cons rfl (.cons rfl (.cons rfl (.cons rfl (.cons rfl (.cons rfl (.cons rfl (.cons rfl (.cons rfl (.cons rfl (.cons rfl (.cons rfl (.cons rfl (.cons rfl (.cons rfl (.cons rfl (.cons rfl (.cons rfl (.cons rfl (.cons rfl (.cons rfl (.cons rfl (.cons rfl (.cons rfl (.cons rfl (.cons rfl (.cons rfl (.cons rfl (.cons rfl (.cons rfl (.cons rfl (.cons rfl (.cons rfl (.cons rfl .nil))))))))))))))))))))))))))))))))))))) (gx_perm (by first | exact .refl _ | (repeat (first | exact .refl _ | refine perm_take (by first | exact .head | exact .tail .head | exact .tail (.tail .head) | exact .tail (.tail (.tail .head)) | exact .tail (.tail (.tail (.tail .head))) | exact .tail (.tail (.tail (.tail (.tail .head))))) ?_))) (hD11 b7 True.intro))
                                          · skip
                                            refine gs_alloc kze66 rfl rfl rfl (fun b8 => ?_)
                                            refine gx_env (F := [(0, _), (1, _), (2, _), (3, _), (4, _), (5, _), (6, _), (7, _), (8, _), (9, _), (10, _), (11, _), (12, _), (13, _), (14, _), (15, _), (16, _), (17, _), (18, _), (19, _), (20, _), (21, _), (22, _), (23, _), (24, _), (25, _), (26, _), (27, _), (28, _), (29, _), (30, _), (31, _), (32, _), (33, _), (34, _), (35, _), (43, _)]) (.cons rfl (.cons rfl (.cons rfl (.cons rfl (.cons rfl (.cons rfl (.cons rfl (.cons rfl (.cons rfl (.cons rfl (.cons rfl (.cons rfl (.cons rfl (.cons rfl (.cons rfl (.cons rfl (.cons rfl (.cons rfl (.cons rfl (.cons rfl (.cons rfl (.cons rfl (.cons rfl (.cons rfl (.cons rfl (.cons rfl (.cons rfl (.cons rfl (.cons rfl (.cons rfl (.cons rfl (.cons rfl (.cons rfl (.cons rfl (.cons rfl (.cons rfl (.cons rfl .nil))))))))))))))))))))))))))))))))))))) (gx_perm (by first | exact .refl _ | (repeat (first | exact .refl _ | refine perm_take (by first | exact .head | exact .tail .head | exact .tail (.tail .head) | exact .tail (.tail (.tail .head)) | exact .tail (.tail (.tail (.tail .head))) | exact .tail (.tail (.tail (.tail (.tail .head))))) ?_))) (hD14 b7 b8 True.intro))
                                      · rintro b8 _
                                        refine ga_branch (rs := [1, 2, 4]) (by kernel_rfl) rfl (.cons (ls' := [true, true, false, false, false, true, false, false]) rfl rfl ?_ (.cons (ls' := [true, false, true, false, false, true, false, false]) rfl rfl ?_ (.cons (ls' := [true, false, false, false, true, true, false, false]) rfl rfl ?_ .nil)))
                                        · skip
                                          refine gs_pure (enters kcall66 (.cons rfl .nil)) (reach_spec a) rfl rfl rfl (fun _ _ => trivial) ?_
                                          refine gx_env (F := [(0, _), (1, _), (2, _), (3, _), (4, _), (5, _), (6, _), (8, _), (9, _), (10, _), (11, _), (12, _), (13, _), (14, _), (15, _), (16, _), (17, _), (18, _), (19, _), (20, _), (21, _), (22, _), (23, _), (24, _), (25, _), (26, _), (27, _), (28, _), (29, _), (30, _), (31, _), (32, _), (33, _), (34, _), (35, _), (41, _), (42, _)]) (.cons rfl (.cons rfl (.cons rfl (.cons rfl (.cons rfl (.cons rfl (.cons rfl (.cons rfl (.cons rfl (.cons rfl (.cons rfl (.cons rfl (.cons rfl (.cons rfl (.cons rfl (.cons rfl (.cons rfl (.cons rfl (.cons rfl (.cons rfl (.cons rfl (.cons rfl (.cons rfl (.cons rfl (.cons rfl (.cons rfl (.cons rfl (.cons rfl (.cons rfl (.cons rfl (.cons rfl (.cons rfl (.cons rfl (.cons rfl (.cons rfl (.cons rfl (.cons rfl .nil))))))))))))))))))))))))))))))))))))) (gx_perm (by first | exact .refl _ | (repeat (first | exact .refl _ | refine perm_take (by first | exact .head | exact .tail .head | exact .tail (.tail .head) | exact .tail (.tail (.tail .head)) | exact .tail (.tail (.tail (.tail .head))) | exact .tail (.tail (.tail (.tail (.tail .head))))) ?_))) (hD10 b8 True.intro))
                                        · skip
                                          refine gs_val (val_loadA kag22 rfl (sees_mem (by repeat (first | exact .head _ | refine .tail _ ?_ | refine List.mem_append_right _ ?_))) rfl rfl) rfl rfl rfl ?_
                                          refine gx_env (F := [(0, _), (1, _), (2, _), (3, _), (4, _), (5, _), (6, _), (8, _), (9, _), (10, _), (11, _), (12, _), (13, _), (14, _), (15, _), (16, _), (17, _), (18, _), (19, _), (20, _), (21, _), (22, _), (23, _), (24, _), (25, _), (26, _), (27, _), (28, _), (29, _), (30, _), (31, _), (32, _), (33, _), (34, _), (35, _), (41, _), (43, _)]) (.cons rfl (.cons rfl (.cons rfl (.cons rfl (.cons rfl (.cons rfl (.cons rfl (.cons rfl (.cons rfl (.cons rfl (.cons rfl (.cons rfl (.cons rfl (.cons rfl (.cons rfl (.cons rfl (.cons rfl (.cons rfl (.cons rfl (.cons rfl (.cons rfl (.cons rfl (.cons rfl (.cons rfl (.cons rfl (.cons rfl (.cons rfl (.cons rfl (.cons rfl (.cons rfl (.cons rfl (.cons rfl (.cons rfl (.cons rfl (.cons rfl (.cons rfl (.cons rfl .nil))))))))))))))))))))))))))))))))))))) (gx_perm (by first | exact .refl _ | (repeat (first | exact .refl _ | refine perm_take (by first | exact .head | exact .tail .head | exact .tail (.tail .head) | exact .tail (.tail (.tail .head)) | exact .tail (.tail (.tail (.tail .head))) | exact .tail (.tail (.tail (.tail (.tail .head))))) ?_))) (hD12 b8 True.intro))
                                        · skip
                                          refine gs_alloc kze66 rfl rfl rfl (fun b7 => ?_)
                                          refine gx_env (F := [(0, _), (1, _), (2, _), (3, _), (4, _), (5, _), (6, _), (7, _), (8, _), (9, _), (10, _), (11, _), (12, _), (13, _), (14, _), (15, _), (16, _), (17, _), (18, _), (19, _), (20, _), (21, _), (22, _), (23, _), (24, _), (25, _), (26, _), (27, _), (28, _), (29, _), (30, _), (31, _), (32, _), (33, _), (34, _), (35, _), (41, _)]) (.cons rfl (.cons rfl (.cons rfl (.cons rfl (.cons rfl (.cons rfl (.cons rfl (.cons rfl (.cons rfl (.cons rfl (.cons rfl (.cons rfl (.cons rfl (.cons rfl (.cons rfl (.cons rfl (.cons rfl (.cons rfl (.cons rfl (.cons rfl (.cons rfl (.cons rfl (.cons rfl (.cons rfl (.cons rfl (.cons rfl (.cons rfl (.cons rfl (.cons rfl (.cons rfl (.cons rfl (.cons rfl (.cons rfl (.cons rfl (.cons rfl (.cons rfl (.cons rfl .nil))))))))))))))))))))))))))))))))))))) (gx_perm (by first | exact .refl _ | (repeat (first | exact .refl _ | refine perm_take (by first | exact .head | exact .tail .head | exact .tail (.tail .head) | exact .tail (.tail (.tail .head)) | exact .tail (.tail (.tail (.tail .head))) | exact .tail (.tail (.tail (.tail (.tail .head))))) ?_))) (hD13 b7 b8 True.intro))
                                    · rintro b7 _
                                      refine ga_branch (rs := [1, 2, 5]) (by kernel_rfl) rfl (.cons (ls' := [true, true, false, false, true, false, false, false]) rfl rfl ?_ (.cons (ls' := [true, false, true, false, true, false, false, false]) rfl rfl ?_ (.cons (ls' := [true, false, false, false, true, true, false, false]) rfl rfl ?_ .nil)))
                                      · skip
                                        refine gs_pure (enters kcall66 (.cons rfl .nil)) (reach_spec a) rfl rfl rfl (fun _ _ => trivial) ?_
                                        refine gx_env (F := [(0, _), (1, _), (2, _), (3, _), (4, _), (5, _), (6, _), (7, _), (9, _), (10, _), (11, _), (12, _), (13, _), (14, _), (15, _), (16, _), (17, _), (18, _), (19, _), (20, _), (21, _), (22, _), (23, _), (24, _), (25, _), (26, _), (27, _), (28, _), (29, _), (30, _), (31, _), (32, _), (33, _), (34, _), (35, _), (41, _), (42, _)]) (.cons rfl (.cons rfl (.cons rfl (.cons rfl (.cons rfl (.cons rfl (.cons rfl (.cons rfl (.cons rfl (.cons rfl (.cons rfl (.cons rfl (.cons rfl (.cons rfl (.cons rfl (.cons rfl (.cons rfl (.cons rfl (.cons rfl (.cons rfl (.cons rfl (.cons rfl (.cons rfl (.cons rfl (.cons rfl (.cons rfl (.cons rfl (.cons rfl (.cons rfl (.cons rfl (.cons rfl (.cons rfl (.cons rfl (.cons rfl (.cons rfl (.cons rfl (.cons rfl .nil))))))))))))))))))))))))))))))))))))) (gx_perm (by first | exact .refl _ | (repeat (first | exact .refl _ | refine perm_take (by first | exact .head | exact .tail .head | exact .tail (.tail .head) | exact .tail (.tail (.tail .head)) | exact .tail (.tail (.tail (.tail .head))) | exact .tail (.tail (.tail (.tail (.tail .head))))) ?_))) (hD9 b7 True.intro))
                                      · skip
                                        refine gs_val (val_loadA kag22 rfl (sees_mem (by repeat (first | exact .head _ | refine .tail _ ?_ | refine List.mem_append_right _ ?_))) rfl rfl) rfl rfl rfl ?_
                                        refine gx_env (F := [(0, _), (1, _), (2, _), (3, _), (4, _), (5, _), (6, _), (7, _), (9, _), (10, _), (11, _), (12, _), (13, _), (14, _), (15, _), (16, _), (17, _), (18, _), (19, _), (20, _), (21, _), (22, _), (23, _), (24, _), (25, _), (26, _), (27, _), (28, _), (29, _), (30, _), (31, _), (32, _), (33, _), (34, _), (35, _), (41, _), (43, _)]) (.cons rfl (.cons rfl (.cons rfl (.cons rfl (.cons rfl (.cons rfl (.cons rfl (.cons rfl (.cons rfl (.cons rfl (.cons rfl (.cons rfl (.cons rfl (.cons rfl (.cons rfl (.cons rfl (.cons rfl (.cons rfl (.cons rfl (.cons rfl (.cons rfl (.cons rfl (.cons rfl (.cons rfl (.cons rfl (.cons rfl (.cons rfl (.cons rfl (.cons rfl (.cons rfl (.cons rfl (.cons rfl (.cons rfl (.cons rfl (.cons rfl (.cons rfl (.cons rfl .nil))))))))))))))))))))))))))))))))))))) (gx_perm (by first | exact .refl _ | (repeat (first | exact .refl _ | refine perm_take (by first | exact .head | exact .tail .head | exact .tail (.tail .head) | exact .tail (.tail (.tail .head)) | exact .tail (.tail (.tail (.tail .head))) | exact .tail (.tail (.tail (.tail (.tail .head))))) ?_))) (hD11 b7 True.intro))
                                      · skip
                                        refine gs_alloc kze66 rfl rfl rfl (fun b8 => ?_)
                                        refine gx_env (F := [(0, _), (1, _), (2, _), (3, _), (4, _), (5, _), (6, _), (7, _), (8, _), (9, _), (10, _), (11, _), (12, _), (13, _), (14, _), (15, _), (16, _), (17, _), (18, _), (19, _), (20, _), (21, _), (22, _), (23, _), (24, _), (25, _), (26, _), (27, _), (28, _), (29, _), (30, _), (31, _), (32, _), (33, _), (34, _), (35, _), (41, _)]) (.cons rfl (.cons rfl (.cons rfl (.cons rfl (.cons rfl (.cons rfl (.cons rfl (.cons rfl (.cons rfl (.cons rfl (.cons rfl (.cons rfl (.cons rfl (.cons rfl (.cons rfl (.cons rfl (.cons rfl (.cons rfl (.cons rfl (.cons rfl (.cons rfl (.cons rfl (.cons rfl (.cons rfl (.cons rfl (.cons rfl (.cons rfl (.cons rfl (.cons rfl (.cons rfl (.cons rfl (.cons rfl (.cons rfl (.cons rfl (.cons rfl (.cons rfl (.cons rfl .nil))))))))))))))))))))))))))))))))))))) (gx_perm (by first | exact .refl _ | (repeat (first | exact .refl _ | refine perm_take (by first | exact .head | exact .tail .head | exact .tail (.tail .head) | exact .tail (.tail (.tail .head)) | exact .tail (.tail (.tail (.tail .head))) | exact .tail (.tail (.tail (.tail (.tail .head))))) ?_))) (hD13 b7 b8 True.intro))
                                  · rintro  _
                                    refine ga_branch (rs := [1, 4, 5]) (by kernel_rfl) rfl (.cons (ls' := [true, true, true, false, false, false, false, false]) rfl rfl ?_ (.cons (ls' := [true, false, true, false, true, false, false, false]) rfl rfl ?_ (.cons (ls' := [true, false, true, false, false, true, false, false]) rfl rfl ?_ .nil)))
                                    · skip
                                      refine gs_pure (enters kcall66 (.cons rfl .nil)) (reach_spec a) rfl rfl rfl (fun _ _ => trivial) ?_
                                      refine gx_env (F := [(0, _), (1, _), (2, _), (3, _), (4, _), (5, _), (6, _), (9, _), (10, _), (11, _), (12, _), (13, _), (14, _), (15, _), (16, _), (17, _), (18, _), (19, _), (20, _), (21, _), (22, _), (23, _), (24, _), (25, _), (26, _), (27, _), (28, _), (29, _), (30, _), (31, _), (32, _), (33, _), (34, _), (35, _), (41, _), (42, _), (43, _)]) (.cons rfl (.cons rfl (.cons rfl (.cons rfl (.cons rfl (.cons rfl (.cons rfl (.cons rfl (.cons rfl (.cons rfl (.cons rfl (.cons rfl (.cons rfl (.cons rfl (.cons rfl (.cons rfl (.cons rfl (.cons rfl (.cons rfl (.cons rfl (.cons rfl (.cons rfl (.cons rfl (.cons rfl (.cons rfl (.cons rfl (.cons rfl (.cons rfl (.cons rfl (.cons rfl (.cons rfl (.cons rfl (.cons rfl (.cons rfl (.cons rfl (.cons rfl (.cons rfl .nil))))))))))))))))))))))))))))))))))))) (gx_perm (by first | exact .refl _ | (repeat (first | exact .refl _ | refine perm_take (by first | exact .head | exact .tail .head | exact .tail (.tail .head) | exact .tail (.tail (.tail .head)) | exact .tail (.tail (.tail (.tail .head))) | exact .tail (.tail (.tail (.tail (.tail .head))))) ?_))) (hD8  True.intro))
                                    · skip
                                      refine gs_alloc kze66 rfl rfl rfl (fun b7 => ?_)
                                      refine gx_env (F := [(0, _), (1, _), (2, _), (3, _), (4, _), (5, _), (6, _), (7, _), (9, _), (10, _), (11, _), (12, _), (13, _), (14, _), (15, _), (16, _), (17, _), (18, _), (19, _), (20, _), (21, _), (22, _), (23, _), (24, _), (25, _), (26, _), (27, _), (28, _), (29, _), (30, _), (31, _), (32, _), (33, _), (34, _), (35, _), (41, _), (43, _)]) (.cons rfl (.cons rfl (.cons rfl (.cons rfl (.cons rfl (.cons rfl (.cons rfl (.cons rfl (.cons rfl (.cons rfl (.cons rfl (.cons rfl (.cons rfl (.cons rfl (.cons rfl (.cons rfl (.cons rfl (.cons rfl (.cons rfl (.cons rfl (.cons rfl (.cons rfl (.cons rfl (.cons rfl (.cons rfl (.cons rfl (.cons rfl (.cons rfl (.cons rfl (.cons rfl (.cons rfl (.cons rfl (.cons rfl (.cons rfl (.cons rfl (.cons rfl (.cons rfl .nil))))))))))))))))))))))))))))))))))))) (gx_perm (by first | exact .refl _ | (repeat (first | exact .refl _ | refine perm_take (by first | exact .head | exact .tail .head | exact .tail (.tail .head) | exact .tail (.tail (.tail .head)) | exact .tail (.tail (.tail (.tail .head))) | exact .tail (.tail (.tail (.tail (.tail .head))))) ?_))) (hD11 b7 True.intro))
                                    · skip
                                      refine gs_alloc kze66 rfl rfl rfl (fun b8 => ?_)
                                      refine gx_env (F := [(0, _), (1, _), (2, _), (3, _), (4, _), (5, _), (6, _), (8, _), (9, _), (10, _), (11, _), (12, _), (13, _), (14, _), (15, _), (16, _), (17, _), (18, _), (19, _), (20, _), (21, _), (22, _), (23, _), (24, _), (25, _), (26, _), (27, _), (28, _), (29, _), (30, _), (31, _), (32, _), (33, _), (34, _), (35, _), (41, _), (43, _)]) (.cons rfl (.cons rfl (.cons rfl (.cons rfl (.cons rfl (.cons rfl (.cons rfl (.cons rfl (.cons rfl (.cons rfl (.cons rfl (.cons rfl (.cons rfl (.cons rfl (.cons rfl (.cons rfl (.cons rfl (.cons rfl (.cons rfl (.cons rfl (.cons rfl (.cons rfl (.cons rfl (.cons rfl (.cons rfl (.cons rfl (.cons rfl (.cons rfl (.cons rfl (.cons rfl (.cons rfl (.cons rfl (.cons rfl (.cons rfl (.cons rfl (.cons rfl (.cons rfl .nil))))))))))))))))))))))))))))))))))))) (gx_perm (by first | exact .refl _ | (repeat (first | exact .refl _ | refine perm_take (by first | exact .head | exact .tail .head | exact .tail (.tail .head) | exact .tail (.tail (.tail .head)) | exact .tail (.tail (.tail (.tail .head))) | exact .tail (.tail (.tail (.tail (.tail .head))))) ?_))) (hD12 b8 True.intro))
                                · rintro b7 b8 _
                                  refine ga_branch (rs := [0]) (by kernel_rfl) rfl (.cons (ls' := [true, false, true, false, true, true, false, false]) rfl rfl ?_ .nil)
                                  refine gs_val (val_loadA kag22 rfl (sees_mem (by repeat (first | exact .head _ | refine .tail _ ?_ | refine List.mem_append_right _ ?_))) rfl rfl) rfl rfl rfl ?_
                                  refine gx_env (F := [(0, _), (1, _), (2, _), (3, _), (4, _), (5, _), (6, _), (7, _), (8, _), (9, _), (10, _), (11, _), (12, _), (13, _), (14, _), (15, _), (16, _), (17, _), (18, _), (19, _), (20, _), (21, _), (22, _), (23, _), (24, _), (25, _), (26, _), (27, _), (28, _), (29, _), (30, _), (31, _), (32, _), (33, _), (34, _), (35, _), (41, _), (43, _)]) (.cons rfl (.cons rfl (.cons rfl (.cons rfl (.cons rfl (.cons rfl (.cons rfl (.cons rfl (.cons rfl (.cons rfl (.cons rfl (.cons rfl (.cons rfl (.cons rfl (.cons rfl (.cons rfl (.cons rfl (.cons rfl (.cons rfl (.cons rfl (.cons rfl (.cons rfl (.cons rfl (.cons rfl (.cons rfl (.cons rfl (.cons rfl (.cons rfl (.cons rfl (.cons rfl (.cons rfl (.cons rfl (.cons rfl (.cons rfl (.cons rfl (.cons rfl (.cons rfl (.cons rfl .nil)))))))))))))))))))))))))))))))))))))) (gx_perm (by first | exact .refl _ | (repeat (first | exact .refl _ | refine perm_take (by first | exact .head | exact .tail .head | exact .tail (.tail .head) | exact .tail (.tail (.tail .head)) | exact .tail (.tail (.tail (.tail .head))) | exact .tail (.tail (.tail (.tail (.tail .head))))) ?_))) (hD7 b7 b8 True.intro))
                              · rintro b7 b8 _
                                refine ga_branch (rs := [1, 2]) (by kernel_rfl) rfl (.cons (ls' := [true, true, false, false, true, true, false, false]) rfl rfl ?_ (.cons (ls' := [true, false, true, false, true, true, false, false]) rfl rfl ?_ .nil))
                                · skip
                                  refine gs_pure (enters kcall66 (.cons rfl .nil)) (reach_spec a) rfl rfl rfl (fun _ _ => trivial) ?_
                                  refine gx_env (F := [(0, _), (1, _), (2, _), (3, _), (4, _), (5, _), (6, _), (7, _), (8, _), (9, _), (10, _), (11, _), (12, _), (13, _), (14, _), (15, _), (16, _), (17, _), (18, _), (19, _), (20, _), (21, _), (22, _), (23, _), (24, _), (25, _), (26, _), (27, _), (28, _), (29, _), (30, _), (31, _), (32, _), (33, _), (34, _), (35, _), (41, _), (42, _)]) (.cons rfl (.cons rfl (.cons rfl (.cons rfl (.cons rfl (.cons rfl (.cons rfl (.cons rfl (.cons rfl (.cons rfl (.cons rfl (.cons rfl (.cons rfl (.cons rfl (.cons rfl (.cons rfl (.cons rfl (.cons rfl (.cons rfl (.cons rfl (.cons rfl (.cons rfl (.cons rfl (.cons rfl (.cons rfl (.cons rfl (.cons rfl (.cons rfl (.cons rfl (.cons rfl (.cons rfl (.cons rfl (.cons rfl (.cons rfl (.cons rfl (.cons rfl (.cons rfl (.cons rfl .nil)))))))))))))))))))))))))))))))))))))) (gx_perm (by first | exact .refl _ | (repeat (first | exact .refl _ | refine perm_take (by first | exact .head | exact .tail .head | exact .tail (.tail .head) | exact .tail (.tail (.tail .head)) | exact .tail (.tail (.tail (.tail .head))) | exact .tail (.tail (.tail (.tail (.tail .head))))) ?_))) (hD6 b7 b8 True.intro))
                                · skip
                                  refine gs_val (val_loadA kag22 rfl (sees_mem (by repeat (first | exact .head _ | refine .tail _ ?_ | refine List.mem_append_right _ ?_))) rfl rfl) rfl rfl rfl ?_
                                  refine gx_env (F := [(0, _), (1, _), (2, _), (3, _), (4, _), (5, _), (6, _), (7, _), (8, _), (9, _), (10, _), (11, _), (12, _), (13, _), (14, _), (15, _), (16, _), (17, _), (18, _), (19, _), (20, _), (21, _), (22, _), (23, _), (24, _), (25, _), (26, _), (27, _), (28, _), (29, _), (30, _), (31, _), (32, _), (33, _), (34, _), (35, _), (41, _), (43, _)]) (.cons rfl (.cons rfl (.cons rfl (.cons rfl (.cons rfl (.cons rfl (.cons rfl (.cons rfl (.cons rfl (.cons rfl (.cons rfl (.cons rfl (.cons rfl (.cons rfl (.cons rfl (.cons rfl (.cons rfl (.cons rfl (.cons rfl (.cons rfl (.cons rfl (.cons rfl (.cons rfl (.cons rfl (.cons rfl (.cons rfl (.cons rfl (.cons rfl (.cons rfl (.cons rfl (.cons rfl (.cons rfl (.cons rfl (.cons rfl (.cons rfl (.cons rfl (.cons rfl (.cons rfl .nil)))))))))))))))))))))))))))))))))))))) (gx_perm (by first | exact .refl _ | (repeat (first | exact .refl _ | refine perm_take (by first | exact .head | exact .tail .head | exact .tail (.tail .head) | exact .tail (.tail (.tail .head)) | exact .tail (.tail (.tail (.tail .head))) | exact .tail (.tail (.tail (.tail (.tail .head))))) ?_))) (hD7 b7 b8 True.intro))
                            · rintro b8 _
                              refine ga_branch (rs := [1, 4]) (by kernel_rfl) rfl (.cons (ls' := [true, true, true, false, false, true, false, false]) rfl rfl ?_ (.cons (ls' := [true, false, true, false, true, true, false, false]) rfl rfl ?_ .nil))
                              · skip
                                refine gs_pure (enters kcall66 (.cons rfl .nil)) (reach_spec a) rfl rfl rfl (fun _ _ => trivial) ?_
                                refine gx_env (F := [(0, _), (1, _), (2, _), (3, _), (4, _), (5, _), (6, _), (8, _), (9, _), (10, _), (11, _), (12, _), (13, _), (14, _), (15, _), (16, _), (17, _), (18, _), (19, _), (20, _), (21, _), (22, _), (23, _), (24, _), (25, _), (26, _), (27, _), (28, _), (29, _), (30, _), (31, _), (32, _), (33, _), (34, _), (35, _), (41, _), (42, _), (43, _)]) (.cons rfl (.cons rfl (.cons rfl (.cons rfl (.cons rfl (.cons rfl (.cons rfl (.cons rfl (.cons rfl (.cons rfl (.cons rfl (.cons rfl (.cons rfl (.cons rfl (.cons rfl (.cons rfl (.cons rfl (.cons rfl (.cons rfl (.cons rfl (.cons rfl (.cons rfl (.cons rfl (.cons rfl (.cons rfl (.cons rfl (.cons rfl (.cons rfl (.cons rfl (.cons rfl (.cons rfl (.cons rfl (.cons rfl (.cons rfl (.cons rfl (.cons rfl (.cons rfl (.cons rfl .nil)))))))))))))))))))))))))))))))))))))) (gx_perm (by first | exact .refl _ | (repeat (first | exact .refl _ | refine perm_take (by first | exact .head | exact .tail .head | exact .tail (.tail .head) | exact .tail (.tail (.tail .head)) | exact .tail (.tail (.tail (.tail .head))) | exact .tail (.tail (.tail (.tail (.tail .head))))) ?_))) (hD5 b8 True.intro))
                              · skip
                                refine gs_alloc kze66 rfl rfl rfl (fun b7 => ?_)
                                refine gx_env (F := [(0, _), (1, _), (2, _), (3, _), (4, _), (5, _), (6, _), (7, _), (8, _), (9, _), (10, _), (11, _), (12, _), (13, _), (14, _), (15, _), (16, _), (17, _), (18, _), (19, _), (20, _), (21, _), (22, _), (23, _), (24, _), (25, _), (26, _), (27, _), (28, _), (29, _), (30, _), (31, _), (32, _), (33, _), (34, _), (35, _), (41, _), (43, _)]) (.cons rfl (.cons rfl (.cons rfl (.cons rfl (.cons rfl (.cons rfl (.cons rfl (.cons rfl (.cons rfl (.cons rfl (.cons rfl (.cons rfl (.cons rfl (.cons rfl (.cons rfl (.cons rfl (.cons rfl (.cons rfl (.cons rfl (.cons rfl (.cons rfl (.cons rfl (.cons rfl (.cons rfl (.cons rfl (.cons rfl (.cons rfl (.cons rfl (.cons rfl (.cons rfl (.cons rfl (.cons rfl (.cons rfl (.cons rfl (.cons rfl (.cons rfl (.cons rfl (.cons rfl .nil)))))))))))))))))))))))))))))))))))))) (gx_perm (by first | exact .refl _ | (repeat (first | exact .refl _ | refine perm_take (by first | exact .head | exact .tail .head | exact .tail (.tail .head) | exact .tail (.tail (.tail .head)) | exact .tail (.tail (.tail (.tail .head))) | exact .tail (.tail (.tail (.tail (.tail .head))))) ?_))) (hD7 b7 b8 True.intro))
                          · rintro b7 _
                            refine ga_branch (rs := [1, 5]) (by kernel_rfl) rfl (.cons (ls' := [true, true, true, false, true, false, false, false]) rfl rfl ?_ (.cons (ls' := [true, false, true, false, true, true, false, false]) rfl rfl ?_ .nil))
                            · skip
                              refine gs_pure (enters kcall66 (.cons rfl .nil)) (reach_spec a) rfl rfl rfl (fun _ _ => trivial) ?_
                              refine gx_env (F := [(0, _), (1, _), (2, _), (3, _), (4, _), (5, _), (6, _), (7, _), (9, _), (10, _), (11, _), (12, _), (13, _), (14, _), (15, _), (16, _), (17, _), (18, _), (19, _), (20, _), (21, _), (22, _), (23, _), (24, _), (25, _), (26, _), (27, _), (28, _), (29, _), (30, _), (31, _), (32, _), (33, _), (34, _), (35, _), (41, _), (42, _), (43, _)]) (.cons rfl (.cons rfl (.cons rfl (.cons rfl (.cons rfl (.cons rfl (.cons rfl (.cons rfl (.cons rfl (.cons rfl (.cons rfl (.cons rfl (.cons rfl (.cons rfl (.cons rfl (.cons rfl (.cons rfl (.cons rfl (.cons rfl (.cons rfl (.cons rfl (.cons rfl (.cons rfl (.cons rfl (.cons rfl (.cons rfl (.cons rfl (.cons rfl (.cons rfl (.cons rfl (.cons rfl (.cons rfl (.cons rfl (.cons rfl (.cons rfl (.cons rfl (.cons rfl (.cons rfl .nil)))))))))))))))))))))))))))))))))))))) (gx_perm (by first | exact .refl _ | (repeat (first | exact .refl _ | refine perm_take (by first | exact .head | exact .tail .head | exact .tail (.tail .head) | exact .tail (.tail (.tail .head)) | exact .tail (.tail (.tail (.tail .head))) | exact .tail (.tail (.tail (.tail (.tail .head))))) ?_))) (hD4 b7 True.intro))
                            · skip
                              refine gs_alloc kze66 rfl rfl rfl (fun b8 => ?_)
                              refine gx_env (F := [(0, _), (1, _), (2, _), (3, _), (4, _), (5, _), (6, _), (7, _), (8, _), (9, _), (10, _), (11, _), (12, _), (13, _), (14, _), (15, _), (16, _), (17, _), (18, _), (19, _), (20, _), (21, _), (22, _), (23, _), (24, _), (25, _), (26, _), (27, _), (28, _), (29, _), (30, _), (31, _), (32, _), (33, _), (34, _), (35, _), (41, _), (43, _)]) (.cons rfl (.cons rfl (.cons rfl (.cons rfl (.cons rfl (.cons rfl (.cons rfl (.cons rfl (.cons rfl (.cons rfl (.cons rfl (.cons rfl (.cons rfl (.cons rfl (.cons rfl (.cons rfl (.cons rfl (.cons rfl (.cons rfl (.cons rfl (.cons rfl (.cons rfl (.cons rfl (.cons rfl (.cons rfl (.cons rfl (.cons rfl (.cons rfl (.cons rfl (.cons rfl (.cons rfl (.cons rfl (.cons rfl (.cons rfl (.cons rfl (.cons rfl (.cons rfl (.cons rfl .nil)))))))))))))))))))))))))))))))))))))) (gx_perm (by first | exact .refl _ | (repeat (first | exact .refl _ | refine perm_take (by first | exact .head | exact .tail .head | exact .tail (.tail .head) | exact .tail (.tail (.tail .head)) | exact .tail (.tail (.tail (.tail .head))) | exact .tail (.tail (.tail (.tail (.tail .head))))) ?_))) (hD7 b7 b8 True.intro))
                        · rintro b8 _
                          refine ga_branch (rs := [2, 4]) (by kernel_rfl) rfl (.cons (ls' := [true, true, true, false, false, true, false, false]) rfl rfl ?_ (.cons (ls' := [true, true, false, false, true, true, false, false]) rfl rfl ?_ .nil))
                          · skip
                            refine gs_val (val_loadA kag22 rfl (sees_mem (by repeat (first | exact .head _ | refine .tail _ ?_ | refine List.mem_append_right _ ?_))) rfl rfl) rfl rfl rfl ?_
                            refine gx_env (F := [(0, _), (1, _), (2, _), (3, _), (4, _), (5, _), (6, _), (8, _), (9, _), (10, _), (11, _), (12, _), (13, _), (14, _), (15, _), (16, _), (17, _), (18, _), (19, _), (20, _), (21, _), (22, _), (23, _), (24, _), (25, _), (26, _), (27, _), (28, _), (29, _), (30, _), (31, _), (32, _), (33, _), (34, _), (35, _), (41, _), (42, _), (43, _)]) (.cons rfl (.cons rfl (.cons rfl (.cons rfl (.cons rfl (.cons rfl (.cons rfl (.cons rfl (.cons rfl (.cons rfl (.cons rfl (.cons rfl (.cons rfl (.cons rfl (.cons rfl (.cons rfl (.cons rfl (.cons rfl (.cons rfl (.cons rfl (.cons rfl (.cons rfl (.cons rfl (.cons rfl (.cons rfl (.cons rfl (.cons rfl (.cons rfl (.cons rfl (.cons rfl (.cons rfl (.cons rfl (.cons rfl (.cons rfl (.cons rfl (.cons rfl (.cons rfl (.cons rfl .nil)))))))))))))))))))))))))))))))))))))) (gx_perm (by first | exact .refl _ | (repeat (first | exact .refl _ | refine perm_take (by first | exact .head | exact .tail .head | exact .tail (.tail .head) | exact .tail (.tail (.tail .head)) | exact .tail (.tail (.tail (.tail .head))) | exact .tail (.tail (.tail (.tail (.tail .head))))) ?_))) (hD5 b8 True.intro))
                          · skip
                            refine gs_alloc kze66 rfl rfl rfl (fun b7 => ?_)
                            refine gx_env (F := [(0, _), (1, _), (2, _), (3, _), (4, _), (5, _), (6, _), (7, _), (8, _), (9, _), (10, _), (11, _), (12, _), (13, _), (14, _), (15, _), (16, _), (17, _), (18, _), (19, _), (20, _), (21, _), (22, _), (23, _), (24, _), (25, _), (26, _), (27, _), (28, _), (29, _), (30, _), (31, _), (32, _), (33, _), (34, _), (35, _), (41, _), (42, _)]) (.cons rfl (.cons rfl (.cons rfl (.cons rfl (.cons rfl (.cons rfl (.cons rfl (.cons rfl (.cons rfl (.cons rfl (.cons rfl (.cons rfl (.cons rfl (.cons rfl (.cons rfl (.cons rfl (.cons rfl (.cons rfl (.cons rfl (.cons rfl (.cons rfl (.cons rfl (.cons rfl (.cons rfl (.cons rfl (.cons rfl (.cons rfl (.cons rfl (.cons rfl (.cons rfl (.cons rfl (.cons rfl (.cons rfl (.cons rfl (.cons rfl (.cons rfl (.cons rfl (.cons rfl .nil)))))))))))))))))))))))))))))))))))))) (gx_perm (by first | exact .refl _ | (repeat (first | exact .refl _ | refine perm_take (by first | exact .head | exact .tail .head | exact .tail (.tail .head) | exact .tail (.tail (.tail .head)) | exact .tail (.tail (.tail (.tail .head))) | exact .tail (.tail (.tail (.tail (.tail .head))))) ?_))) (hD6 b7 b8 True.intro))
                      · rintro b7 _
                        refine ga_branch (rs := [2, 5]) (by kernel_rfl) rfl (.cons (ls' := [true, true, true, false, true, false, false, false]) rfl rfl ?_ (.cons (ls' := [true, true, false, false, true, true, false, false]) rfl rfl ?_ .nil))
                        · skip
                          refine gs_val (val_loadA kag22 rfl (sees_mem (by repeat (first | exact .head _ | refine .tail _ ?_ | refine List.mem_append_right _ ?_))) rfl rfl) rfl rfl rfl ?_
                          refine gx_env (F := [(0, _), (1, _), (2, _), (3, _), (4, _), (5, _), (6, _), (7, _), (9, _), (10, _), (11, _), (12, _), (13, _), (14, _), (15, _), (16, _), (17, _), (18, _), (19, _), (20, _), (21, _), (22, _), (23, _), (24, _), (25, _), (26, _), (27, _), (28, _), (29, _), (30, _), (31, _), (32, _), (33, _), (34, _), (35, _), (41, _), (42, _), (43, _)]) (.cons rfl (.cons rfl (.cons rfl (.cons rfl (.cons rfl (.cons rfl (.cons rfl (.cons rfl (.cons rfl (.cons rfl (.cons rfl (.cons rfl (.cons rfl (.cons rfl (.cons rfl (.cons rfl (.cons rfl (.cons rfl (.cons rfl (.cons rfl (.cons rfl (.cons rfl (.cons rfl (.cons rfl (.cons rfl (.cons rfl (.cons rfl (.cons rfl (.cons rfl (.cons rfl (.cons rfl (.cons rfl (.cons rfl (.cons rfl (.cons rfl (.cons rfl (.cons rfl (.cons rfl .nil)))))))))))))))))))))))))))))))))))))) (gx_perm (by first | exact .refl _ | (repeat (first | exact .refl _ | refine perm_take (by first | exact .head | exact .tail .head | exact .tail (.tail .head) | exact .tail (.tail (.tail .head)) | exact .tail (.tail (.tail (.tail .head))) | exact .tail (.tail (.tail (.tail (.tail .head))))) ?_))) (hD4 b7 True.intro))
                        · skip
                          refine gs_alloc kze66 rfl rfl rfl (fun b8 => ?_)
                          refine gx_env (F := [(0, _), (1, _), (2, _), (3, _), (4, _), (5, _), (6, _), (7, _), (8, _), (9, _), (10, _), (11, _), (12, _), (13, _), (14, _), (15, _), (16, _), (17, _), (18, _), (19, _), (20, _), (21, _), (22, _), (23, _), (24, _), (25, _), (26, _), (27, _), (28, _), (29, _), (30, _), (31, _), (32, _), (33, _), (34, _), (35, _), (41, _), (42, _)]) (.cons rfl (.cons rfl (.cons rfl (.cons rfl (.cons rfl (.cons rfl (.cons rfl (.cons rfl (.cons rfl (.cons rfl (.cons rfl (.cons rfl (.cons rfl (.cons rfl (.cons rfl (.cons rfl (.cons rfl (.cons rfl (.cons rfl (.cons rfl (.cons rfl (.cons rfl (.cons rfl (.cons rfl (.cons rfl (.cons rfl (.cons rfl (.cons rfl (.cons rfl (.cons rfl (.cons rfl (.cons rfl (.cons rfl (.cons rfl (.cons rfl (.cons rfl (.cons rfl (.cons rfl .nil)))))))))))))))))))))))))))))))))))))) (gx_perm (by first | exact .refl _ | (repeat (first | exact .refl _ | refine perm_take (by first | exact .head | exact .tail .head | exact .tail (.tail .head) | exact .tail (.tail (.tail .head)) | exact .tail (.tail (.tail (.tail .head))) | exact .tail (.tail (.tail (.tail (.tail .head))))) ?_))) (hD6 b7 b8 True.intro))
                    · rintro  _
                      refine ga_branch (rs := [3, 4, 5]) (by kernel_rfl) rfl (.cons (ls' := [true, true, true, true, false, false, false, false]) rfl rfl ?_ (.cons (ls' := [true, true, true, false, true, false, false, false]) rfl rfl ?_ (.cons (ls' := [true, true, true, false, false, true, false, false]) rfl rfl ?_ .nil)))
                      · skip
                        refine gs_pure (enters kcall66 (.cons rfl .nil)) (reach_spec b) rfl rfl rfl (fun _ _ => trivial) ?_
                        refine ga_branch (rs := [4, 5]) (by kernel_rfl) rfl (.cons (ls' := [true, true, true, true, true, false, false, false]) rfl rfl ?_ (.cons (ls' := [true, true, true, true, false, true, false, false]) rfl rfl ?_ .nil))
                        · skip
                          refine gs_alloc kze66 rfl rfl rfl (fun b7 => ?_)
                          refine gx_env (F := [(0, _), (1, _), (2, _), (3, _), (4, _), (5, _), (6, _), (7, _), (9, _), (10, _), (11, _), (12, _), (13, _), (14, _), (15, _), (16, _), (17, _), (18, _), (19, _), (20, _), (21, _), (22, _), (23, _), (24, _), (25, _), (26, _), (27, _), (28, _), (29, _), (30, _), (31, _), (32, _), (33, _), (34, _), (35, _), (41, _), (42, _), (43, _), (44, _)]) (.cons rfl (.cons rfl (.cons rfl (.cons rfl (.cons rfl (.cons rfl (.cons rfl (.cons rfl (.cons rfl (.cons rfl (.cons rfl (.cons rfl (.cons rfl (.cons rfl (.cons rfl (.cons rfl (.cons rfl (.cons rfl (.cons rfl (.cons rfl (.cons rfl (.cons rfl (.cons rfl (.cons rfl (.cons rfl (.cons rfl (.cons rfl (.cons rfl (.cons rfl (.cons rfl (.cons rfl (.cons rfl (.cons rfl (.cons rfl (.cons rfl (.cons rfl (.cons rfl (.cons rfl (.cons rfl .nil))))))))))))))))))))))))))))))))))))))) (gx_perm (by first | exact .refl _ | (repeat (first | exact .refl _ | refine perm_take (by first | exact .head | exact .tail .head | exact .tail (.tail .head) | exact .tail (.tail (.tail .head)) | exact .tail (.tail (.tail (.tail .head))) | exact .tail (.tail (.tail (.tail (.tail .head))))) ?_))) (hD1 b7 True.intro))
                        · skip
                          refine gs_alloc kze66 rfl rfl rfl (fun b8 => ?_)
                          refine gx_env (F := [(0, _), (1, _), (2, _), (3, _), (4, _), (5, _), (6, _), (8, _), (9, _), (10, _), (11, _), (12, _), (13, _), (14, _), (15, _), (16, _), (17, _), (18, _), (19, _), (20, _), (21, _), (22, _), (23, _), (24, _), (25, _), (26, _), (27, _), (28, _), (29, _), (30, _), (31, _), (32, _), (33, _), (34, _), (35, _), (41, _), (42, _), (43, _), (44, _)]) (.cons rfl (.cons rfl (.cons rfl (.cons rfl (.cons rfl (.cons rfl (.cons rfl (.cons rfl (.cons rfl (.cons rfl (.cons rfl (.cons rfl (.cons rfl (.cons rfl (.cons rfl (.cons rfl (.cons rfl (.cons rfl (.cons rfl (.cons rfl (.cons rfl (.cons rfl (.cons rfl (.cons rfl (.cons rfl (.cons rfl (.cons rfl (.cons rfl (.cons rfl (.cons rfl (.cons rfl (.cons rfl (.cons rfl (.cons rfl (.cons rfl (.cons rfl (.cons rfl (.cons rfl (.cons rfl .nil))))))))))))))))))))))))))))))))))))))) (gx_perm (by first | exact .refl _ | (repeat (first | exact .refl _ | refine perm_take (by first | exact .head | exact .tail .head | exact .tail (.tail .head) | exact .tail (.tail (.tail .head)) | exact .tail (.tail (.tail (.tail .head))) | exact .tail (.tail (.tail (.tail (.tail .head))))) ?_))) (hD2 b8 True.intro))
                      · skip
                        refine gs_alloc kze66 rfl rfl rfl (fun b7 => ?_)
                        refine gx_env (F := [(0, _), (1, _), (2, _), (3, _), (4, _), (5, _), (6, _), (7, _), (9, _), (10, _), (11, _), (12, _), (13, _), (14, _), (15, _), (16, _), (17, _), (18, _), (19, _), (20, _), (21, _), (22, _), (23, _), (24, _), (25, _), (26, _), (27, _), (28, _), (29, _), (30, _), (31, _), (32, _), (33, _), (34, _), (35, _), (41, _), (42, _), (43, _)]) (.cons rfl (.cons rfl (.cons rfl (.cons rfl (.cons rfl (.cons rfl (.cons rfl (.cons rfl (.cons rfl (.cons rfl (.cons rfl (.cons rfl (.cons rfl (.cons rfl (.cons rfl (.cons rfl (.cons rfl (.cons rfl (.cons rfl (.cons rfl (.cons rfl (.cons rfl (.cons rfl (.cons rfl (.cons rfl (.cons rfl (.cons rfl (.cons rfl (.cons rfl (.cons rfl (.cons rfl (.cons rfl (.cons rfl (.cons rfl (.cons rfl (.cons rfl (.cons rfl (.cons rfl .nil)))))))))))))))))))))))))))))))))))))) (gx_perm (by first | exact .refl _ | (repeat (first | exact .refl _ | refine perm_take (by first | exact .head | exact .tail .head | exact .tail (.tail .head) | exact .tail (.tail (.tail .head)) | exact .tail (.tail (.tail (.tail .head))) | exact .tail (.tail (.tail (.tail (.tail .head))))) ?_))) (hD4 b7 True.intro))
                      · skip
                        refine gs_alloc kze66 rfl rfl rfl (fun b8 => ?_)
                        refine gx_env (F := [(0, _), (1, _), (2, _), (3, _), (4, _), (5, _), (6, _), (8, _), (9, _), (10, _), (11, _), (12, _), (13, _), (14, _), (15, _), (16, _), (17, _), (18, _), (19, _), (20, _), (21, _), (22, _), (23, _), (24, _), (25, _), (26, _), (27, _), (28, _), (29, _), (30, _), (31, _), (32, _), (33, _), (34, _), (35, _), (41, _), (42, _), (43, _)]) (.cons rfl (.cons rfl (.cons rfl (.cons rfl (.cons rfl (.cons rfl (.cons rfl (.cons rfl (.cons rfl (.cons rfl (.cons rfl (.cons rfl (.cons rfl (.cons rfl (.cons rfl (.cons rfl (.cons rfl (.cons rfl (.cons rfl (.cons rfl (.cons rfl (.cons rfl (.cons rfl (.cons rfl (.cons rfl (.cons rfl (.cons rfl (.cons rfl (.cons rfl (.cons rfl (.cons rfl (.cons rfl (.cons rfl (.cons rfl (.cons rfl (.cons rfl (.cons rfl (.cons rfl .nil)))))))))))))))))))))))))))))))))))))) (gx_perm (by first | exact .refl _ | (repeat (first | exact .refl _ | refine perm_take (by first | exact .head | exact .tail .head | exact .tail (.tail .head) | exact .tail (.tail (.tail .head)) | exact .tail (.tail (.tail (.tail .head))) | exact .tail (.tail (.tail (.tail (.tail .head))))) ?_))) (hD5 b8 True.intro))
                  · rintro b7 b8 _
                    refine ga_branch (rs := [1]) (by kernel_rfl) rfl (.cons (ls' := [true, true, true, false, true, true, false, false]) rfl rfl ?_ .nil)
                    refine gs_pure (enters kcall66 (.cons rfl .nil)) (reach_spec a) rfl rfl rfl (fun _ _ => trivial) ?_
                    refine gx_env (F := [(0, _), (1, _), (2, _), (3, _), (4, _), (5, _), (6, _), (7, _), (8, _), (9, _), (10, _), (11, _), (12, _), (13, _), (14, _), (15, _), (16, _), (17, _), (18, _), (19, _), (20, _), (21, _), (22, _), (23, _), (24, _), (25, _), (26, _), (27, _), (28, _), (29, _), (30, _), (31, _), (32, _), (33, _), (34, _), (35, _), (41, _), (42, _), (43, _)]) (.cons rfl (.cons rfl (.cons rfl (.cons rfl (.cons rfl (.cons rfl (.cons rfl (.cons rfl (.cons rfl (.cons rfl (.cons rfl (.cons rfl (.cons rfl (.cons rfl (.cons rfl (.cons rfl (.cons rfl (.cons rfl (.cons rfl (.cons rfl (.cons rfl (.cons rfl (.cons rfl (.cons rfl (.cons rfl (.cons rfl (.cons rfl (.cons rfl (.cons rfl (.cons rfl (.cons rfl (.cons rfl (.cons rfl (.cons rfl (.cons rfl (.cons rfl (.cons rfl (.cons rfl (.cons rfl .nil))))))))))))))))))))))))))))))))))))))) (gx_perm (by first | exact .refl _ | (repeat (first | exact .refl _ | refine perm_take (by first | exact .head | exact .tail .head | exact .tail (.tail .head) | exact .tail (.tail (.tail .head)) | exact .tail (.tail (.tail (.tail .head))) | exact .tail (.tail (.tail (.tail (.tail .head))))) ?_))) (hD3 b7 b8 True.intro))
                · rintro b7 b8 _
                  refine ga_branch (rs := [2]) (by kernel_rfl) rfl (.cons (ls' := [true, true, true, false, true, true, false, false]) rfl rfl ?_ .nil)
                  refine gs_val (val_loadA kag22 rfl (sees_mem (by repeat (first | exact .head _ | refine .tail _ ?_ | refine List.mem_append_right _ ?_))) rfl rfl) rfl rfl rfl ?_
                  refine gx_env (F := [(0, _), (1, _), (2, _), (3, _), (4, _), (5, _), (6, _), (7, _), (8, _), (9, _), (10, _), (11, _), (12, _), (13, _), (14, _), (15, _), (16, _), (17, _), (18, _), (19, _), (20, _), (21, _), (22, _), (23, _), (24, _), (25, _), (26, _), (27, _), (28, _), (29, _), (30, _), (31, _), (32, _), (33, _), (34, _), (35, _), (41, _), (42, _), (43, _)]) (.cons rfl (.cons rfl (.cons rfl (.cons rfl (.cons rfl (.cons rfl (.cons rfl (.cons rfl (.cons rfl (.cons rfl (.cons rfl (.cons rfl (.cons rfl (.cons rfl (.cons rfl (.cons rfl (.cons rfl (.cons rfl (.cons rfl (.cons rfl (.cons rfl (.cons rfl (.cons rfl (.cons rfl (.cons rfl (.cons rfl (.cons rfl (.cons rfl (.cons rfl (.cons rfl (.cons rfl (.cons rfl (.cons rfl (.cons rfl (.cons rfl (.cons rfl (.cons rfl (.cons rfl (.cons rfl .nil))))))))))))))))))))))))))))))))))))))) (gx_perm (by first | exact .refl _ | (repeat (first | exact .refl _ | refine perm_take (by first | exact .head | exact .tail .head | exact .tail (.tail .head) | exact .tail (.tail (.tail .head)) | exact .tail (.tail (.tail (.tail .head))) | exact .tail (.tail (.tail (.tail (.tail .head))))) ?_))) (hD3 b7 b8 True.intro))
              · rintro b8 _
                refine ga_branch (rs := [3, 4]) (by kernel_rfl) rfl (.cons (ls' := [true, true, true, true, false, true, false, false]) rfl rfl ?_ (.cons (ls' := [true, true, true, false, true, true, false, false]) rfl rfl ?_ .nil))
                · skip
                  refine gs_pure (enters kcall66 (.cons rfl .nil)) (reach_spec b) rfl rfl rfl (fun _ _ => trivial) ?_
                  refine gx_env (F := [(0, _), (1, _), (2, _), (3, _), (4, _), (5, _), (6, _), (8, _), (9, _), (10, _), (11, _), (12, _), (13, _), (14, _), (15, _), (16, _), (17, _), (18, _), (19, _), (20, _), (21, _), (22, _), (23, _), (24, _), (25, _), (26, _), (27, _), (28, _), (29, _), (30, _), (31, _), (32, _), (33, _), (34, _), (35, _), (41, _), (42, _), (43, _), (44, _)]) (.cons rfl (.cons rfl (.cons rfl (.cons rfl (.cons rfl (.cons rfl (.cons rfl (.cons rfl (.cons rfl (.cons rfl (.cons rfl (.cons rfl (.cons rfl (.cons rfl (.cons rfl (.cons rfl (.cons rfl (.cons rfl (.cons rfl (.cons rfl (.cons rfl (.cons rfl (.cons rfl (.cons rfl (.cons rfl (.cons rfl (.cons rfl (.cons rfl (.cons rfl (.cons rfl (.cons rfl (.cons rfl (.cons rfl (.cons rfl (.cons rfl (.cons rfl (.cons rfl (.cons rfl (.cons rfl .nil))))))))))))))))))))))))))))))))))))))) (gx_perm (by first | exact .refl _ | (repeat (first | exact .refl _ | refine perm_take (by first | exact .head | exact .tail .head | exact .tail (.tail .head) | exact .tail (.tail (.tail .head)) | exact .tail (.tail (.tail (.tail .head))) | exact .tail (.tail (.tail (.tail (.tail .head))))) ?_))) (hD2 b8 True.intro))
                · skip
                  refine gs_alloc kze66 rfl rfl rfl (fun b7 => ?_)
                  refine gx_env (F := [(0, _), (1, _), (2, _), (3, _), (4, _), (5, _), (6, _), (7, _), (8, _), (9, _), (10, _), (11, _), (12, _), (13, _), (14, _), (15, _), (16, _), (17, _), (18, _), (19, _), (20, _), (21, _), (22, _), (23, _), (24, _), (25, _), (26, _), (27, _), (28, _), (29, _), (30, _), (31, _), (32, _), (33, _), (34, _), (35, _), (41, _), (42, _), (43, _)]) (.cons rfl (.cons rfl (.cons rfl (.cons rfl (.cons rfl (.cons rfl (.cons rfl (.cons rfl (.cons rfl (.cons rfl (.cons rfl (.cons rfl (.cons rfl (.cons rfl (.cons rfl (.cons rfl (.cons rfl (.cons rfl (.cons rfl (.cons rfl (.cons rfl (.cons rfl (.cons rfl (.cons rfl (.cons rfl (.cons rfl (.cons rfl (.cons rfl (.cons rfl (.cons rfl (.cons rfl (.cons rfl (.cons rfl (.cons rfl (.cons rfl (.cons rfl (.cons rfl (.cons rfl (.cons rfl .nil))))))))))))))))))))))))))))))))))))))) (gx_perm (by first | exact .refl _ | (repeat (first | exact .refl _ | refine perm_take (by first | exact .head | exact .tail .head | exact .tail (.tail .head) | exact .tail (.tail (.tail .head)) | exact .tail (.tail (.tail (.tail .head))) | exact .tail (.tail (.tail (.tail (.tail .head))))) ?_))) (hD3 b7 b8 True.intro))
            · rintro b7 _
              refine ga_branch (rs := [3, 5]) (by kernel_rfl) rfl (.cons (ls' := [true, true, true, true, true, false, false, false]) rfl rfl ?_ (.cons (ls' := [true, true, true, false, true, true, false, false]) rfl rfl ?_ .nil))
              · skip
                refine gs_pure (enters kcall66 (.cons rfl .nil)) (reach_spec b) rfl rfl rfl (fun _ _ => trivial) ?_
                refine gx_env (F := [(0, _), (1, _), (2, _), (3, _), (4, _), (5, _), (6, _), (7, _), (9, _), (10, _), (11, _), (12, _), (13, _), (14, _), (15, _), (16, _), (17, _), (18, _), (19, _), (20, _), (21, _), (22, _), (23, _), (24, _), (25, _), (26, _), (27, _), (28, _), (29, _), (30, _), (31, _), (32, _), (33, _), (34, _), (35, _), (41, _), (42, _), (43, _), (44, _)]) (.cons rfl (.cons rfl (.cons rfl (.cons rfl (.cons rfl (.cons rfl (.cons rfl (.cons rfl (.cons rfl (.cons rfl (.cons rfl (.cons rfl (.cons rfl (.cons rfl (.cons rfl (.cons rfl (.cons rfl (.cons rfl (.cons rfl (.cons rfl (.cons rfl (.cons rfl (.cons rfl (.cons rfl (.cons rfl (.cons rfl (.cons rfl (.cons rfl (.cons rfl (.cons rfl (.cons rfl (.cons rfl (.cons rfl (.cons rfl (.cons rfl (.cons rfl (.cons rfl (.cons rfl (.cons rfl .nil))))))))))))))))))))))))))))))))))))))) (gx_perm (by first | exact .refl _ | (repeat (first | exact .refl _ | refine perm_take (by first | exact .head | exact .tail .head | exact .tail (.tail .head) | exact .tail (.tail (.tail .head)) | exact .tail (.tail (.tail (.tail .head))) | exact .tail (.tail (.tail (.tail (.tail .head))))) ?_))) (hD1 b7 True.intro))
              · skip
                refine gs_alloc kze66 rfl rfl rfl (fun b8 => ?_)
                refine gx_env (F := [(0, _), (1, _), (2, _), (3, _), (4, _), (5, _), (6, _), (7, _), (8, _), (9, _), (10, _), (11, _), (12, _), (13, _), (14, _), (15, _), (16, _), (17, _), (18, _), (19, _), (20, _), (21, _), (22, _), (23, _), (24, _), (25, _), (26, _), (27, _), (28, _), (29, _), (30, _), (31, _), (32, _), (33, _), (34, _), (35, _), (41, _), (42, _), (43, _)]) (.cons rfl (.cons rfl (.cons rfl (.cons rfl (.cons rfl (.cons rfl (.cons rfl (.cons rfl (.cons rfl (.cons rfl (.cons rfl (.cons rfl (.cons rfl (.cons rfl (.cons rfl (.cons rfl (.cons rfl (.cons rfl (.cons rfl (.cons rfl (.cons rfl (.cons rfl (.cons rfl (.cons rfl (.cons rfl (.cons rfl (.cons rfl (.cons rfl (.cons rfl (.cons rfl (.cons rfl (.cons rfl (.cons rfl (.cons rfl (.cons rfl (.cons rfl (.cons rfl (.cons rfl (.cons rfl .nil))))))))))))))))))))))))))))))))))))))) (gx_perm (by first | exact .refl _ | (repeat (first | exact .refl _ | refine perm_take (by first | exact .head | exact .tail .head | exact .tail (.tail .head) | exact .tail (.tail (.tail .head)) | exact .tail (.tail (.tail (.tail .head))) | exact .tail (.tail (.tail (.tail (.tail .head))))) ?_))) (hD3 b7 b8 True.intro))
          · rintro b7 b8 _
            refine ga_branch (rs := [3]) (by kernel_rfl) rfl (.cons (ls' := [true, true, true, true, true, true, false, false]) rfl rfl ?_ .nil)
            refine gs_pure (enters kcall66 (.cons rfl .nil)) (reach_spec b) rfl rfl rfl (fun _ _ => trivial) ?_
            refine gx_env (F := [(0, _), (1, _), (2, _), (3, _), (4, _), (5, _), (6, _), (7, _), (8, _), (9, _), (10, _), (11, _), (12, _), (13, _), (14, _), (15, _), (16, _), (17, _), (18, _), (19, _), (20, _), (21, _), (22, _), (23, _), (24, _), (25, _), (26, _), (27, _), (28, _), (29, _), (30, _), (31, _), (32, _), (33, _), (34, _), (35, _), (41, _), (42, _), (43, _), (44, _)]) (.cons rfl (.cons rfl (.cons rfl (.cons rfl (.cons rfl (.cons rfl (.cons rfl (.cons rfl (.cons rfl (.cons rfl (.cons rfl (.cons rfl (.cons rfl (.cons rfl (.cons rfl (.cons rfl (.cons rfl (.cons rfl (.cons rfl (.cons rfl (.cons rfl (.cons rfl (.cons rfl (.cons rfl (.cons rfl (.cons rfl (.cons rfl (.cons rfl (.cons rfl (.cons rfl (.cons rfl (.cons rfl (.cons rfl (.cons rfl (.cons rfl (.cons rfl (.cons rfl (.cons rfl (.cons rfl (.cons rfl .nil)))))))))))))))))))))))))))))))))))))))) (gx_perm (by first | exact .refl _ | (repeat (first | exact .refl _ | refine perm_take (by first | exact .head | exact .tail .head | exact .tail (.tail .head) | exact .tail (.tail (.tail .head)) | exact .tail (.tail (.tail (.tail .head))) | exact .tail (.tail (.tail (.tail (.tail .head))))) ?_))) (hD0 b7 b8 True.intro))
        · rintro b8 _
          refine ga_branch (rs := [4]) (by kernel_rfl) rfl (.cons (ls' := [true, true, true, true, true, true, false, false]) rfl rfl ?_ .nil)
          refine gs_alloc kze66 rfl rfl rfl (fun b7 => ?_)
          refine gx_env (F := [(0, _), (1, _), (2, _), (3, _), (4, _), (5, _), (6, _), (7, _), (8, _), (9, _), (10, _), (11, _), (12, _), (13, _), (14, _), (15, _), (16, _), (17, _), (18, _), (19, _), (20, _), (21, _), (22, _), (23, _), (24, _), (25, _), (26, _), (27, _), (28, _), (29, _), (30, _), (31, _), (32, _), (33, _), (34, _), (35, _), (41, _), (42, _), (43, _), (44, _)]) (.cons rfl (.cons rfl (.cons rfl (.cons rfl (.cons rfl (.cons rfl (.cons rfl (.cons rfl (.cons rfl (.cons rfl (.cons rfl (.cons rfl (.cons rfl (.cons rfl (.cons rfl (.cons rfl (.cons rfl (.cons rfl (.cons rfl (.cons rfl (.cons rfl (.cons rfl (.cons rfl (.cons rfl (.cons rfl (.cons rfl (.cons rfl (.cons rfl (.cons rfl (.cons rfl (.cons rfl (.cons rfl (.cons rfl (.cons rfl (.cons rfl (.cons rfl (.cons rfl (.cons rfl (.cons rfl (.cons rfl .nil)))))))))))))))))))))))))))))))))))))))) (gx_perm (by first | exact .refl _ | (repeat (first | exact .refl _ | refine perm_take (by first | exact .head | exact .tail .head | exact .tail (.tail .head) | exact .tail (.tail (.tail .head)) | exact .tail (.tail (.tail (.tail .head))) | exact .tail (.tail (.tail (.tail (.tail .head))))) ?_))) (hD0 b7 b8 True.intro))
      · rintro b7 _
        refine ga_branch (rs := [5]) (by kernel_rfl) rfl (.cons (ls' := [true, true, true, true, true, true, false, false]) rfl rfl ?_ .nil)
        refine gs_alloc kze66 rfl rfl rfl (fun b8 => ?_)
        refine gx_env (F := [(0, _), (1, _), (2, _), (3, _), (4, _), (5, _), (6, _), (7, _), (8, _), (9, _), (10, _), (11, _), (12, _), (13, _), (14, _), (15, _), (16, _), (17, _), (18, _), (19, _), (20, _), (21, _), (22, _), (23, _), (24, _), (25, _), (26, _), (27, _), (28, _), (29, _), (30, _), (31, _), (32, _), (33, _), (34, _), (35, _), (41, _), (42, _), (43, _), (44, _)]) (.cons rfl (.cons rfl (.cons rfl (.cons rfl (.cons rfl (.cons rfl (.cons rfl (.cons rfl (.cons rfl (.cons rfl (.cons rfl (.cons rfl (.cons rfl (.cons rfl (.cons rfl (.cons rfl (.cons rfl (.cons rfl (.cons rfl (.cons rfl (.cons rfl (.cons rfl (.cons rfl (.cons rfl (.cons rfl (.cons rfl (.cons rfl (.cons rfl (.cons rfl (.cons rfl (.cons rfl (.cons rfl (.cons rfl (.cons rfl (.cons rfl (.cons rfl (.cons rfl (.cons rfl (.cons rfl (.cons rfl .nil)))))))))))))))))))))))))))))))))))))))) (gx_perm (by first | exact .refl _ | (repeat (first | exact .refl _ | refine perm_take (by first | exact .head | exact .tail .head | exact .tail (.tail .head) | exact .tail (.tail (.tail .head)) | exact .tail (.tail (.tail (.tail .head))) | exact .tail (.tail (.tail (.tail (.tail .head))))) ?_))) (hD0 b7 b8 True.intro))
    · rintro b7 b8 _
      refine ga_branch (rs := [6]) (by kernel_rfl) rfl (.cons (ls' := [true, true, true, true, true, true, true, false]) rfl rfl ?_ .nil)
      refine gs_store ksz66 rfl rfl rfl rfl rfl rfl (by first | exact .head | exact .tail .head | exact .tail (.tail .head) | exact .tail (.tail (.tail .head)) | exact .tail (.tail (.tail (.tail .head))) | exact .tail (.tail (.tail (.tail (.tail .head))))) (by simp) (by first | ((with_reducible refine splice_all _ _ ?_); simp; done) | (simp only [splice, stL, digL, List.take_succ_cons, List.take_zero, List.drop_succ_cons, List.drop_zero, List.length_cons, List.length_nil, Nat.reduceAdd, Nat.reduceMul, Nat.zero_add, Nat.zero_mul, List.cons_append, List.nil_append]; exact rfl)) ?_
      refine ga_branch (rs := [7]) (by kernel_rfl) rfl (.cons (ls' := [true, true, true, true, true, true, true, true]) rfl rfl ?_ .nil)
      refine gs_store ksz66 rfl rfl rfl rfl rfl rfl (by first | exact .head | exact .tail .head | exact .tail (.tail .head) | exact .tail (.tail (.tail .head)) | exact .tail (.tail (.tail (.tail .head))) | exact .tail (.tail (.tail (.tail (.tail .head))))) (by simp) (by first | ((with_reducible refine splice_all _ _ ?_); simp; done) | (simp only [splice, stL, digL, List.take_succ_cons, List.take_zero, List.drop_succ_cons, List.drop_zero, List.length_cons, List.length_nil, Nat.reduceAdd, Nat.reduceMul, Nat.zero_add, Nat.zero_mul, List.cons_append, List.nil_append]; exact rfl)) ?_
      refine ga_done (by kernel_rfl) ?_
      refine gk_seq ?_
      refine gc_seq ?_
      refine gc_drawAll kmixed (by kernel_rfl) ?_
      refine gq_pure (enters kcall60 .nil) (known05_spec) rfl rfl rfl (fun _ _ => trivial) ?_
      refine gq_val (val_move rfl) rfl rfl rfl ?_
      refine gq_val (val_move rfl) rfl rfl rfl ?_
      refine gq_val (val_yes (val_geq rfl rfl) (by rw [hxe]; omega)) rfl rfl rfl ?_
      refine gq_val (val_pick_t rfl rfl) rfl rfl rfl ?_
      refine gq_val (val_move rfl) rfl rfl rfl ?_
      refine gq_val (val_move rfl) rfl rfl rfl ?_
      refine gq_val (val_yes (val_geq rfl rfl) (by rw [hye]; omega)) rfl rfl rfl ?_
      refine gq_val (val_pick_t rfl rfl) rfl rfl rfl ?_
      refine gq_val (val_move rfl) rfl rfl rfl ?_
      refine gq_val (val_move rfl) rfl rfl rfl ?_
      refine gq_val (val_yes (val_lss rfl rfl) (by rw [hxe]; omega)) rfl rfl rfl ?_
      refine gq_val (val_pick_t rfl rfl) rfl rfl rfl ?_
      refine gq_val (val_move rfl) rfl rfl rfl ?_
      refine gq_val (val_move rfl) rfl rfl rfl ?_
      refine gq_val (val_yes (val_lss rfl rfl) (by rw [hye]; omega)) rfl rfl rfl ?_
      refine gq_val (val_pick_t rfl rfl) rfl rfl rfl ?_
      refine gq_val (val_move rfl) rfl rfl rfl ?_
      refine gq_val (val_move rfl) rfl rfl rfl ?_
      refine gq_val (val_move rfl) rfl rfl rfl ?_
      refine gq_val (val_yes (val_neq rfl rfl) (by rw [hxe, hye]; intro h; have : x = y := (by omega); subst this; omega)) rfl rfl rfl ?_
      refine gq_val (val_pick_t rfl rfl) rfl rfl rfl ?_
      refine gq_val (val_move rfl) rfl rfl rfl ?_
      refine gq_val (val_cast (v := I64 (x : Int)) (val_move rfl) (congrArg I64 hxe)) rfl rfl rfl ?_
      refine gq_val (val_indexArr kar66 rfl rfl rfl (by omega)) rfl rfl rfl ?_
      refine gq_val (val_load1 (v := I64 (dgc a x : Int)) kag3 rfl (sees_mem (by repeat (first | exact .head _ | refine .tail _ ?_ | refine List.mem_append_right _ ?_))) (dgL_get a x (by omega))) rfl rfl rfl ?_
      refine gq_val (val_cast (v := I64 (x : Int)) (val_move rfl) (congrArg I64 hxe)) rfl rfl rfl ?_
      refine gq_val (val_indexArr kar66 rfl rfl rfl (by omega)) rfl rfl rfl ?_
      refine gq_val (val_load1 (v := I64 (dgc b x : Int)) kag3 rfl (sees_mem (by repeat (first | exact .head _ | refine .tail _ ?_ | refine List.mem_append_right _ ?_))) (dgL_get b x (by omega))) rfl rfl rfl ?_
      refine gq_val (val_yes (val_gtr rfl rfl) (by omega)) rfl rfl rfl ?_
      refine gq_val (val_pick_t rfl rfl) rfl rfl rfl ?_
      refine gq_val (val_move rfl) rfl rfl rfl ?_
      refine gq_val (val_cast (v := I64 (y : Int)) (val_move rfl) (congrArg I64 hye)) rfl rfl rfl ?_
      refine gq_val (val_indexArr kar66 rfl rfl rfl (by omega)) rfl rfl rfl ?_
      refine gq_val (val_load1 (v := I64 (dgc b y : Int)) kag3 rfl (sees_mem (by repeat (first | exact .head _ | refine .tail _ ?_ | refine List.mem_append_right _ ?_))) (dgL_get b y (by omega))) rfl rfl rfl ?_
      refine gq_val (val_cast (v := I64 (y : Int)) (val_move rfl) (congrArg I64 hye)) rfl rfl rfl ?_
      refine gq_val (val_indexArr kar66 rfl rfl rfl (by omega)) rfl rfl rfl ?_
      refine gq_val (val_load1 (v := I64 (dgc a y : Int)) kag3 rfl (sees_mem (by repeat (first | exact .head _ | refine .tail _ ?_ | refine List.mem_append_right _ ?_))) (dgL_get a y (by omega))) rfl rfl rfl ?_
      refine gq_val (val_yes (val_gtr rfl rfl) (by omega)) rfl rfl rfl ?_
      refine gq_val (val_pick_t rfl rfl) rfl rfl rfl ?_
      refine gq_val (val_assign rfl) rfl rfl rfl ?_
      refine gq_nil ?_
      refine gl_nil ?_
      refine gk_seq ?_
      refine gc_ret ?_
      refine gk_ret rfl (resv_tmp rfl .nil) (List.nil_sublist _) ?_
      exact ⟨rfl, rfl⟩

end Go.Proofs.Ythmepionpjkcgaa
