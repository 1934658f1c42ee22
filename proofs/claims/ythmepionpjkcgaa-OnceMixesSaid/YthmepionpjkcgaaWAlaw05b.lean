/- The walk of functions of the program: what each computes, for every input. -/
import Derived.Test.YthmepionpjkcgaaWAFacts
import Derived.Test.YthmepionpjkcgaaWAlaw05
namespace Go.Proofs.Ythmepionpjkcgaa
open Go Go.Eng
set_option linter.unusedVariables false
set_option linter.unusedSimpArgs false

set_option maxRecDepth 8000 in
/-- baize/baizelaw05.OnceShows -/
theorem onceShows_walk (s a b : BitVec 64) : Pure Try.prog 15 ([Dig s, Dig a, Dig b]).toArray (fun _ => True) (.bool true) := by
  refine spec_walk (n := 93) Try.func15 rfl rfl rfl (fun w0 hpre => ?_)
  refine gc_seq ?_
  refine gc_region ?_
  refine gl_cons (gs_box rfl rfl rfl rfl (fun b3 => ?_))
  refine gl_cons (gs_box rfl rfl rfl rfl (fun b4 => ?_))
  refine gl_cons (gs_box rfl rfl rfl rfl (fun b5 => ?_))
  refine gl_cons (gs_val (val_assign rfl) rfl rfl rfl ?_)
  refine gl_nil ?_
  refine gk_seq ?_
  refine gc_seq ?_
  refine ga_start (m := 8) (ls := [false, false, false, false, false, false, false, false]) kmixed rfl rfl ?_
  apply share3 (α := Option Addr) (β := Nat) (γ := List Ent) (m' := 3) (ls' := [true, true, true, true, true, false, false, false])
  · intro hD0
    apply share3 (α := Option Addr) (β := Nat) (γ := List Ent) (m' := 4) (ls' := [true, true, true, true, false, false, false, false])
    · intro hD1
      apply share3 (α := Option Addr) (β := Nat) (γ := List Ent) (m' := 4) (ls' := [true, true, true, false, true, false, false, false])
      · intro hD2
        apply share0  (m' := 4) (ls' := [true, true, false, true, true, false, false, false])
        · intro hD3
          apply share0  (m' := 5) (ls' := [true, true, false, true, false, false, false, false])
          · intro hD4
            apply share0  (m' := 5) (ls' := [true, true, false, false, true, false, false, false])
            · intro hD5
              apply share0  (m' := 5) (ls' := [true, false, false, true, true, false, false, false])
              · intro hD6
                apply share0  (m' := 5) (ls' := [false, true, false, true, true, false, false, false])
                · intro hD7
                  apply share0  (m' := 6) (ls' := [true, true, false, false, false, false, false, false])
                  · intro hD8
                    apply share0  (m' := 6) (ls' := [true, false, false, true, false, false, false, false])
                    · intro hD9
                      apply share0  (m' := 6) (ls' := [true, false, false, false, true, false, false, false])
                      · intro hD10
                        apply share0  (m' := 6) (ls' := [false, true, false, true, false, false, false, false])
                        · intro hD11
                          apply share0  (m' := 6) (ls' := [false, true, false, false, true, false, false, false])
                          · intro hD12
                            apply share0  (m' := 6) (ls' := [false, false, false, true, true, false, false, false])
                            · intro hD13
                              refine ga_branch (rs := [0, 1, 3, 4]) (by kernel_rfl) rfl (.cons (ls' := [true, false, false, false, false, false, false, false]) rfl rfl ?_ (.cons (ls' := [false, true, false, false, false, false, false, false]) rfl rfl ?_ (.cons (ls' := [false, false, false, true, false, false, false, false]) rfl rfl ?_ (.cons (ls' := [false, false, false, false, true, false, false, false]) rfl rfl ?_ .nil))))
                              · skip
                                refine gs_val (val_loadA kag22 rfl (sees_mem (by repeat (first | exact .head _ | refine .tail _ ?_ | refine List.mem_append_right _ ?_))) rfl rfl) rfl rfl rfl ?_
                                refine ga_branch (rs := [1, 3, 4]) (by kernel_rfl) rfl (.cons (ls' := [true, true, false, false, false, false, false, false]) rfl rfl ?_ (.cons (ls' := [true, false, false, true, false, false, false, false]) rfl rfl ?_ (.cons (ls' := [true, false, false, false, true, false, false, false]) rfl rfl ?_ .nil)))
                                · skip
                                  refine gs_val (val_loadA kag22 rfl (sees_mem (by repeat (first | exact .head _ | refine .tail _ ?_ | refine List.mem_append_right _ ?_))) rfl rfl) rfl rfl rfl ?_
                                  refine gx_env (F := [(0, _), (1, _), (2, _), (3, _), (4, _), (5, _), (6, _), (16, _), (17, _)]) (.cons rfl (.cons rfl (.cons rfl (.cons rfl (.cons rfl (.cons rfl (.cons rfl (.cons rfl (.cons rfl .nil))))))))) (gx_perm (by first | exact .refl _ | (repeat (first | exact .refl _ | refine perm_take (by first | exact .head | exact .tail .head | exact .tail (.tail .head) | exact .tail (.tail (.tail .head)) | exact .tail (.tail (.tail (.tail .head))) | exact .tail (.tail (.tail (.tail (.tail .head))))) ?_))) (hD8  True.intro))
                                · skip
                                  refine gs_val (val_loadA kag22 rfl (sees_mem (by repeat (first | exact .head _ | refine .tail _ ?_ | refine List.mem_append_right _ ?_))) rfl rfl) rfl rfl rfl ?_
                                  refine gx_env (F := [(0, _), (1, _), (2, _), (3, _), (4, _), (5, _), (6, _), (16, _), (19, _)]) (.cons rfl (.cons rfl (.cons rfl (.cons rfl (.cons rfl (.cons rfl (.cons rfl (.cons rfl (.cons rfl .nil))))))))) (gx_perm (by first | exact .refl _ | (repeat (first | exact .refl _ | refine perm_take (by first | exact .head | exact .tail .head | exact .tail (.tail .head) | exact .tail (.tail (.tail .head)) | exact .tail (.tail (.tail (.tail .head))) | exact .tail (.tail (.tail (.tail (.tail .head))))) ?_))) (hD9  True.intro))
                                · skip
                                  refine gs_val (val_loadA kag22 rfl (sees_mem (by repeat (first | exact .head _ | refine .tail _ ?_ | refine List.mem_append_right _ ?_))) rfl rfl) rfl rfl rfl ?_
                                  refine gx_env (F := [(0, _), (1, _), (2, _), (3, _), (4, _), (5, _), (6, _), (16, _), (20, _)]) (.cons rfl (.cons rfl (.cons rfl (.cons rfl (.cons rfl (.cons rfl (.cons rfl (.cons rfl (.cons rfl .nil))))))))) (gx_perm (by first | exact .refl _ | (repeat (first | exact .refl _ | refine perm_take (by first | exact .head | exact .tail .head | exact .tail (.tail .head) | exact .tail (.tail (.tail .head)) | exact .tail (.tail (.tail (.tail .head))) | exact .tail (.tail (.tail (.tail (.tail .head))))) ?_))) (hD10  True.intro))
                              · skip
                                refine gs_val (val_loadA kag22 rfl (sees_mem (by repeat (first | exact .head _ | refine .tail _ ?_ | refine List.mem_append_right _ ?_))) rfl rfl) rfl rfl rfl ?_
                                refine ga_branch (rs := [0, 3, 4]) (by kernel_rfl) rfl (.cons (ls' := [true, true, false, false, false, false, false, false]) rfl rfl ?_ (.cons (ls' := [false, true, false, true, false, false, false, false]) rfl rfl ?_ (.cons (ls' := [false, true, false, false, true, false, false, false]) rfl rfl ?_ .nil)))
                                · skip
                                  refine gs_val (val_loadA kag22 rfl (sees_mem (by repeat (first | exact .head _ | refine .tail _ ?_ | refine List.mem_append_right _ ?_))) rfl rfl) rfl rfl rfl ?_
                                  refine gx_env (F := [(0, _), (1, _), (2, _), (3, _), (4, _), (5, _), (6, _), (16, _), (17, _)]) (.cons rfl (.cons rfl (.cons rfl (.cons rfl (.cons rfl (.cons rfl (.cons rfl (.cons rfl (.cons rfl .nil))))))))) (gx_perm (by first | exact .refl _ | (repeat (first | exact .refl _ | refine perm_take (by first | exact .head | exact .tail .head | exact .tail (.tail .head) | exact .tail (.tail (.tail .head)) | exact .tail (.tail (.tail (.tail .head))) | exact .tail (.tail (.tail (.tail (.tail .head))))) ?_))) (hD8  True.intro))
                                · skip
                                  refine gs_val (val_loadA kag22 rfl (sees_mem (by repeat (first | exact .head _ | refine .tail _ ?_ | refine List.mem_append_right _ ?_))) rfl rfl) rfl rfl rfl ?_
                                  refine gx_env (F := [(0, _), (1, _), (2, _), (3, _), (4, _), (5, _), (6, _), (17, _), (19, _)]) (.cons rfl (.cons rfl (.cons rfl (.cons rfl (.cons rfl (.cons rfl (.cons rfl (.cons rfl (.cons rfl .nil))))))))) (gx_perm (by first | exact .refl _ | (repeat (first | exact .refl _ | refine perm_take (by first | exact .head | exact .tail .head | exact .tail (.tail .head) | exact .tail (.tail (.tail .head)) | exact .tail (.tail (.tail (.tail .head))) | exact .tail (.tail (.tail (.tail (.tail .head))))) ?_))) (hD11  True.intro))
                                · skip
                                  refine gs_val (val_loadA kag22 rfl (sees_mem (by repeat (first | exact .head _ | refine .tail _ ?_ | refine List.mem_append_right _ ?_))) rfl rfl) rfl rfl rfl ?_
                                  refine gx_env (F := [(0, _), (1, _), (2, _), (3, _), (4, _), (5, _), (6, _), (17, _), (20, _)]) (.cons rfl (.cons rfl (.cons rfl (.cons rfl (.cons rfl (.cons rfl (.cons rfl (.cons rfl (.cons rfl .nil))))))))) (gx_perm (by first | exact .refl _ | (repeat (first | exact .refl _ | refine perm_take (by first | exact .head | exact .tail .head | exact .tail (.tail .head) | exact .tail (.tail (.tail .head)) | exact .tail (.tail (.tail (.tail .head))) | exact .tail (.tail (.tail (.tail (.tail .head))))) ?_))) (hD12  True.intro))
                              · skip
                                refine gs_val (val_loadA kag22 rfl (sees_mem (by repeat (first | exact .head _ | refine .tail _ ?_ | refine List.mem_append_right _ ?_))) rfl rfl) rfl rfl rfl ?_
                                refine ga_branch (rs := [0, 1, 4]) (by kernel_rfl) rfl (.cons (ls' := [true, false, false, true, false, false, false, false]) rfl rfl ?_ (.cons (ls' := [false, true, false, true, false, false, false, false]) rfl rfl ?_ (.cons (ls' := [false, false, false, true, true, false, false, false]) rfl rfl ?_ .nil)))
                                · skip
                                  refine gs_val (val_loadA kag22 rfl (sees_mem (by repeat (first | exact .head _ | refine .tail _ ?_ | refine List.mem_append_right _ ?_))) rfl rfl) rfl rfl rfl ?_
                                  refine gx_env (F := [(0, _), (1, _), (2, _), (3, _), (4, _), (5, _), (6, _), (16, _), (19, _)]) (.cons rfl (.cons rfl (.cons rfl (.cons rfl (.cons rfl (.cons rfl (.cons rfl (.cons rfl (.cons rfl .nil))))))))) (gx_perm (by first | exact .refl _ | (repeat (first | exact .refl _ | refine perm_take (by first | exact .head | exact .tail .head | exact .tail (.tail .head) | exact .tail (.tail (.tail .head)) | exact .tail (.tail (.tail (.tail .head))) | exact .tail (.tail (.tail (.tail (.tail .head))))) ?_))) (hD9  True.intro))
                                · skip
                                  refine gs_val (val_loadA kag22 rfl (sees_mem (by repeat (first | exact .head _ | refine .tail _ ?_ | refine List.mem_append_right _ ?_))) rfl rfl) rfl rfl rfl ?_
                                  refine gx_env (F := [(0, _), (1, _), (2, _), (3, _), (4, _), (5, _), (6, _), (17, _), (19, _)]) (.cons rfl (.cons rfl (.cons rfl (.cons rfl (.cons rfl (.cons rfl (.cons rfl (.cons rfl (.cons rfl .nil))))))))) (gx_perm (by first | exact .refl _ | (repeat (first | exact .refl _ | refine perm_take (by first | exact .head | exact .tail .head | exact .tail (.tail .head) | exact .tail (.tail (.tail .head)) | exact .tail (.tail (.tail (.tail .head))) | exact .tail (.tail (.tail (.tail (.tail .head))))) ?_))) (hD11  True.intro))
                                · skip
                                  refine gs_val (val_loadA kag22 rfl (sees_mem (by repeat (first | exact .head _ | refine .tail _ ?_ | refine List.mem_append_right _ ?_))) rfl rfl) rfl rfl rfl ?_
                                  refine gx_env (F := [(0, _), (1, _), (2, _), (3, _), (4, _), (5, _), (6, _), (19, _), (20, _)]) (.cons rfl (.cons rfl (.cons rfl (.cons rfl (.cons rfl (.cons rfl (.cons rfl (.cons rfl (.cons rfl .nil))))))))) (gx_perm (by first | exact .refl _ | (repeat (first | exact .refl _ | refine perm_take (by first | exact .head | exact .tail .head | exact .tail (.tail .head) | exact .tail (.tail (.tail .head)) | exact .tail (.tail (.tail (.tail .head))) | exact .tail (.tail (.tail (.tail (.tail .head))))) ?_))) (hD13  True.intro))
                              · skip
                                refine gs_val (val_loadA kag22 rfl (sees_mem (by repeat (first | exact .head _ | refine .tail _ ?_ | refine List.mem_append_right _ ?_))) rfl rfl) rfl rfl rfl ?_
                                refine ga_branch (rs := [0, 1, 3]) (by kernel_rfl) rfl (.cons (ls' := [true, false, false, false, true, false, false, false]) rfl rfl ?_ (.cons (ls' := [false, true, false, false, true, false, false, false]) rfl rfl ?_ (.cons (ls' := [false, false, false, true, true, false, false, false]) rfl rfl ?_ .nil)))
                                · skip
                                  refine gs_val (val_loadA kag22 rfl (sees_mem (by repeat (first | exact .head _ | refine .tail _ ?_ | refine List.mem_append_right _ ?_))) rfl rfl) rfl rfl rfl ?_
                                  refine gx_env (F := [(0, _), (1, _), (2, _), (3, _), (4, _), (5, _), (6, _), (16, _), (20, _)]) (.cons rfl (.cons rfl (.cons rfl (.cons rfl (.cons rfl (.cons rfl (.cons rfl (.cons rfl (.cons rfl .nil))))))))) (gx_perm (by first | exact .refl _ | (repeat (first | exact .refl _ | refine perm_take (by first | exact .head | exact .tail .head | exact .tail (.tail .head) | exact .tail (.tail (.tail .head)) | exact .tail (.tail (.tail (.tail .head))) | exact .tail (.tail (.tail (.tail (.tail .head))))) ?_))) (hD10  True.intro))
                                · skip
                                  refine gs_val (val_loadA kag22 rfl (sees_mem (by repeat (first | exact .head _ | refine .tail _ ?_ | refine List.mem_append_right _ ?_))) rfl rfl) rfl rfl rfl ?_
                                  refine gx_env (F := [(0, _), (1, _), (2, _), (3, _), (4, _), (5, _), (6, _), (17, _), (20, _)]) (.cons rfl (.cons rfl (.cons rfl (.cons rfl (.cons rfl (.cons rfl (.cons rfl (.cons rfl (.cons rfl .nil))))))))) (gx_perm (by first | exact .refl _ | (repeat (first | exact .refl _ | refine perm_take (by first | exact .head | exact .tail .head | exact .tail (.tail .head) | exact .tail (.tail (.tail .head)) | exact .tail (.tail (.tail (.tail .head))) | exact .tail (.tail (.tail (.tail (.tail .head))))) ?_))) (hD12  True.intro))
                                · skip
                                  refine gs_val (val_loadA kag22 rfl (sees_mem (by repeat (first | exact .head _ | refine .tail _ ?_ | refine List.mem_append_right _ ?_))) rfl rfl) rfl rfl rfl ?_
                                  refine gx_env (F := [(0, _), (1, _), (2, _), (3, _), (4, _), (5, _), (6, _), (19, _), (20, _)]) (.cons rfl (.cons rfl (.cons rfl (.cons rfl (.cons rfl (.cons rfl (.cons rfl (.cons rfl (.cons rfl .nil))))))))) (gx_perm (by first | exact .refl _ | (repeat (first | exact .refl _ | refine perm_take (by first | exact .head | exact .tail .head | exact .tail (.tail .head) | exact .tail (.tail (.tail .head)) | exact .tail (.tail (.tail (.tail .head))) | exact .tail (.tail (.tail (.tail (.tail .head))))) ?_))) (hD13  True.intro))
                            · rintro  _
                              refine ga_branch (rs := [0, 1]) (by kernel_rfl) rfl (.cons (ls' := [true, false, false, true, true, false, false, false]) rfl rfl ?_ (.cons (ls' := [false, true, false, true, true, false, false, false]) rfl rfl ?_ .nil))
                              · skip
                                refine gs_val (val_loadA kag22 rfl (sees_mem (by repeat (first | exact .head _ | refine .tail _ ?_ | refine List.mem_append_right _ ?_))) rfl rfl) rfl rfl rfl ?_
                                refine gx_env (F := [(0, _), (1, _), (2, _), (3, _), (4, _), (5, _), (6, _), (16, _), (19, _), (20, _)]) (.cons rfl (.cons rfl (.cons rfl (.cons rfl (.cons rfl (.cons rfl (.cons rfl (.cons rfl (.cons rfl (.cons rfl .nil)))))))))) (gx_perm (by first | exact .refl _ | (repeat (first | exact .refl _ | refine perm_take (by first | exact .head | exact .tail .head | exact .tail (.tail .head) | exact .tail (.tail (.tail .head)) | exact .tail (.tail (.tail (.tail .head))) | exact .tail (.tail (.tail (.tail (.tail .head))))) ?_))) (hD6  True.intro))
                              · skip
                                refine gs_val (val_loadA kag22 rfl (sees_mem (by repeat (first | exact .head _ | refine .tail _ ?_ | refine List.mem_append_right _ ?_))) rfl rfl) rfl rfl rfl ?_
                                refine gx_env (F := [(0, _), (1, _), (2, _), (3, _), (4, _), (5, _), (6, _), (17, _), (19, _), (20, _)]) (.cons rfl (.cons rfl (.cons rfl (.cons rfl (.cons rfl (.cons rfl (.cons rfl (.cons rfl (.cons rfl (.cons rfl .nil)))))))))) (gx_perm (by first | exact .refl _ | (repeat (first | exact .refl _ | refine perm_take (by first | exact .head | exact .tail .head | exact .tail (.tail .head) | exact .tail (.tail (.tail .head)) | exact .tail (.tail (.tail (.tail .head))) | exact .tail (.tail (.tail (.tail (.tail .head))))) ?_))) (hD7  True.intro))
                          · rintro  _
                            refine ga_branch (rs := [0, 3]) (by kernel_rfl) rfl (.cons (ls' := [true, true, false, false, true, false, false, false]) rfl rfl ?_ (.cons (ls' := [false, true, false, true, true, false, false, false]) rfl rfl ?_ .nil))
                            · skip
                              refine gs_val (val_loadA kag22 rfl (sees_mem (by repeat (first | exact .head _ | refine .tail _ ?_ | refine List.mem_append_right _ ?_))) rfl rfl) rfl rfl rfl ?_
                              refine gx_env (F := [(0, _), (1, _), (2, _), (3, _), (4, _), (5, _), (6, _), (16, _), (17, _), (20, _)]) (.cons rfl (.cons rfl (.cons rfl (.cons rfl (.cons rfl (.cons rfl (.cons rfl (.cons rfl (.cons rfl (.cons rfl .nil)))))))))) (gx_perm (by first | exact .refl _ | (repeat (first | exact .refl _ | refine perm_take (by first | exact .head | exact .tail .head | exact .tail (.tail .head) | exact .tail (.tail (.tail .head)) | exact .tail (.tail (.tail (.tail .head))) | exact .tail (.tail (.tail (.tail (.tail .head))))) ?_))) (hD5  True.intro))
                            · skip
                              refine gs_val (val_loadA kag22 rfl (sees_mem (by repeat (first | exact .head _ | refine .tail _ ?_ | refine List.mem_append_right _ ?_))) rfl rfl) rfl rfl rfl ?_
                              refine gx_env (F := [(0, _), (1, _), (2, _), (3, _), (4, _), (5, _), (6, _), (17, _), (19, _), (20, _)]) (.cons rfl (.cons rfl (.cons rfl (.cons rfl (.cons rfl (.cons rfl (.cons rfl (.cons rfl (.cons rfl (.cons rfl .nil)))))))))) (gx_perm (by first | exact .refl _ | (repeat (first | exact .refl _ | refine perm_take (by first | exact .head | exact .tail .head | exact .tail (.tail .head) | exact .tail (.tail (.tail .head)) | exact .tail (.tail (.tail (.tail .head))) | exact .tail (.tail (.tail (.tail (.tail .head))))) ?_))) (hD7  True.intro))
                        · rintro  _
                          refine ga_branch (rs := [0, 4]) (by kernel_rfl) rfl (.cons (ls' := [true, true, false, true, false, false, false, false]) rfl rfl ?_ (.cons (ls' := [false, true, false, true, true, false, false, false]) rfl rfl ?_ .nil))
                          · skip
                            refine gs_val (val_loadA kag22 rfl (sees_mem (by repeat (first | exact .head _ | refine .tail _ ?_ | refine List.mem_append_right _ ?_))) rfl rfl) rfl rfl rfl ?_
                            refine gx_env (F := [(0, _), (1, _), (2, _), (3, _), (4, _), (5, _), (6, _), (16, _), (17, _), (19, _)]) (.cons rfl (.cons rfl (.cons rfl (.cons rfl (.cons rfl (.cons rfl (.cons rfl (.cons rfl (.cons rfl (.cons rfl .nil)))))))))) (gx_perm (by first | exact .refl _ | (repeat (first | exact .refl _ | refine perm_take (by first | exact .head | exact .tail .head | exact .tail (.tail .head) | exact .tail (.tail (.tail .head)) | exact .tail (.tail (.tail (.tail .head))) | exact .tail (.tail (.tail (.tail (.tail .head))))) ?_))) (hD4  True.intro))
                          · skip
                            refine gs_val (val_loadA kag22 rfl (sees_mem (by repeat (first | exact .head _ | refine .tail _ ?_ | refine List.mem_append_right _ ?_))) rfl rfl) rfl rfl rfl ?_
                            refine gx_env (F := [(0, _), (1, _), (2, _), (3, _), (4, _), (5, _), (6, _), (17, _), (19, _), (20, _)]) (.cons rfl (.cons rfl (.cons rfl (.cons rfl (.cons rfl (.cons rfl (.cons rfl (.cons rfl (.cons rfl (.cons rfl .nil)))))))))) (gx_perm (by first | exact .refl _ | (repeat (first | exact .refl _ | refine perm_take (by first | exact .head | exact .tail .head | exact .tail (.tail .head) | exact .tail (.tail (.tail .head)) | exact .tail (.tail (.tail (.tail .head))) | exact .tail (.tail (.tail (.tail (.tail .head))))) ?_))) (hD7  True.intro))
                      · rintro  _
                        refine ga_branch (rs := [1, 3]) (by kernel_rfl) rfl (.cons (ls' := [true, true, false, false, true, false, false, false]) rfl rfl ?_ (.cons (ls' := [true, false, false, true, true, false, false, false]) rfl rfl ?_ .nil))
                        · skip
                          refine gs_val (val_loadA kag22 rfl (sees_mem (by repeat (first | exact .head _ | refine .tail _ ?_ | refine List.mem_append_right _ ?_))) rfl rfl) rfl rfl rfl ?_
                          refine gx_env (F := [(0, _), (1, _), (2, _), (3, _), (4, _), (5, _), (6, _), (16, _), (17, _), (20, _)]) (.cons rfl (.cons rfl (.cons rfl (.cons rfl (.cons rfl (.cons rfl (.cons rfl (.cons rfl (.cons rfl (.cons rfl .nil)))))))))) (gx_perm (by first | exact .refl _ | (repeat (first | exact .refl _ | refine perm_take (by first | exact .head | exact .tail .head | exact .tail (.tail .head) | exact .tail (.tail (.tail .head)) | exact .tail (.tail (.tail (.tail .head))) | exact .tail (.tail (.tail (.tail (.tail .head))))) ?_))) (hD5  True.intro))
                        · skip
                          refine gs_val (val_loadA kag22 rfl (sees_mem (by repeat (first | exact .head _ | refine .tail _ ?_ | refine List.mem_append_right _ ?_))) rfl rfl) rfl rfl rfl ?_
                          refine gx_env (F := [(0, _), (1, _), (2, _), (3, _), (4, _), (5, _), (6, _), (16, _), (19, _), (20, _)]) (.cons rfl (.cons rfl (.cons rfl (.cons rfl (.cons rfl (.cons rfl (.cons rfl (.cons rfl (.cons rfl (.cons rfl .nil)))))))))) (gx_perm (by first | exact .refl _ | (repeat (first | exact .refl _ | refine perm_take (by first | exact .head | exact .tail .head | exact .tail (.tail .head) | exact .tail (.tail (.tail .head)) | exact .tail (.tail (.tail (.tail .head))) | exact .tail (.tail (.tail (.tail (.tail .head))))) ?_))) (hD6  True.intro))
                    · rintro  _
                      refine ga_branch (rs := [1, 4]) (by kernel_rfl) rfl (.cons (ls' := [true, true, false, true, false, false, false, false]) rfl rfl ?_ (.cons (ls' := [true, false, false, true, true, false, false, false]) rfl rfl ?_ .nil))
                      · skip
                        refine gs_val (val_loadA kag22 rfl (sees_mem (by repeat (first | exact .head _ | refine .tail _ ?_ | refine List.mem_append_right _ ?_))) rfl rfl) rfl rfl rfl ?_
                        refine gx_env (F := [(0, _), (1, _), (2, _), (3, _), (4, _), (5, _), (6, _), (16, _), (17, _), (19, _)]) (.cons rfl (.cons rfl (.cons rfl (.cons rfl (.cons rfl (.cons rfl (.cons rfl (.cons rfl (.cons rfl (.cons rfl .nil)))))))))) (gx_perm (by first | exact .refl _ | (repeat (first | exact .refl _ | refine perm_take (by first | exact .head | exact .tail .head | exact .tail (.tail .head) | exact .tail (.tail (.tail .head)) | exact .tail (.tail (.tail (.tail .head))) | exact .tail (.tail (.tail (.tail (.tail .head))))) ?_))) (hD4  True.intro))
                      · skip
                        refine gs_val (val_loadA kag22 rfl (sees_mem (by repeat (first | exact .head _ | refine .tail _ ?_ | refine List.mem_append_right _ ?_))) rfl rfl) rfl rfl rfl ?_
                        refine gx_env (F := [(0, _), (1, _), (2, _), (3, _), (4, _), (5, _), (6, _), (16, _), (19, _), (20, _)]) (.cons rfl (.cons rfl (.cons rfl (.cons rfl (.cons rfl (.cons rfl (.cons rfl (.cons rfl (.cons rfl (.cons rfl .nil)))))))))) (gx_perm (by first | exact .refl _ | (repeat (first | exact .refl _ | refine perm_take (by first | exact .head | exact .tail .head | exact .tail (.tail .head) | exact .tail (.tail (.tail .head)) | exact .tail (.tail (.tail (.tail .head))) | exact .tail (.tail (.tail (.tail (.tail .head))))) ?_))) (hD6  True.intro))
                  · rintro  _
                    refine ga_branch (rs := [2, 3, 4]) (by kernel_rfl) rfl (.cons (ls' := [true, true, true, false, false, false, false, false]) rfl rfl ?_ (.cons (ls' := [true, true, false, true, false, false, false, false]) rfl rfl ?_ (.cons (ls' := [true, true, false, false, true, false, false, false]) rfl rfl ?_ .nil)))
                    · skip
                      refine gs_makes (enters kcall64 (.cons rfl (.cons rfl .nil))) (sign_spec s a) rfl rfl rfl (fun _ _ => trivial) (fun ⟨ba18, c18, N18⟩ h18 => ?_)
                      refine ga_branch (rs := [3, 4]) (by kernel_rfl) rfl (.cons (ls' := [true, true, true, true, false, false, false, false]) rfl rfl ?_ (.cons (ls' := [true, true, true, false, true, false, false, false]) rfl rfl ?_ .nil))
                      · skip
                        refine gs_val (val_loadA kag22 rfl (sees_mem (by repeat (first | exact .head _ | refine .tail _ ?_ | refine List.mem_append_right _ ?_))) rfl rfl) rfl rfl rfl ?_
                        refine gx_env (F := [(0, _), (1, _), (2, _), (3, _), (4, _), (5, _), (6, _), (16, _), (17, _), (18, _), (19, _)]) (.cons rfl (.cons rfl (.cons rfl (.cons rfl (.cons rfl (.cons rfl (.cons rfl (.cons rfl (.cons rfl (.cons rfl (.cons rfl .nil))))))))))) (gx_perm (by first | exact .refl _ | (repeat (first | exact .refl _ | refine perm_take (by first | exact .head | exact .tail .head | exact .tail (.tail .head) | exact .tail (.tail (.tail .head)) | exact .tail (.tail (.tail (.tail .head))) | exact .tail (.tail (.tail (.tail (.tail .head))))) ?_))) (hD1 ba18 c18 N18 (And.intro h18 True.intro)))
                      · skip
                        refine gs_val (val_loadA kag22 rfl (sees_mem (by repeat (first | exact .head _ | refine .tail _ ?_ | refine List.mem_append_right _ ?_))) rfl rfl) rfl rfl rfl ?_
                        refine gx_env (F := [(0, _), (1, _), (2, _), (3, _), (4, _), (5, _), (6, _), (16, _), (17, _), (18, _), (20, _)]) (.cons rfl (.cons rfl (.cons rfl (.cons rfl (.cons rfl (.cons rfl (.cons rfl (.cons rfl (.cons rfl (.cons rfl (.cons rfl .nil))))))))))) (gx_perm (by first | exact .refl _ | (repeat (first | exact .refl _ | refine perm_take (by first | exact .head | exact .tail .head | exact .tail (.tail .head) | exact .tail (.tail (.tail .head)) | exact .tail (.tail (.tail (.tail .head))) | exact .tail (.tail (.tail (.tail (.tail .head))))) ?_))) (hD2 ba18 c18 N18 (And.intro h18 True.intro)))
                    · skip
                      refine gs_val (val_loadA kag22 rfl (sees_mem (by repeat (first | exact .head _ | refine .tail _ ?_ | refine List.mem_append_right _ ?_))) rfl rfl) rfl rfl rfl ?_
                      refine gx_env (F := [(0, _), (1, _), (2, _), (3, _), (4, _), (5, _), (6, _), (16, _), (17, _), (19, _)]) (.cons rfl (.cons rfl (.cons rfl (.cons rfl (.cons rfl (.cons rfl (.cons rfl (.cons rfl (.cons rfl (.cons rfl .nil)))))))))) (gx_perm (by first | exact .refl _ | (repeat (first | exact .refl _ | refine perm_take (by first | exact .head | exact .tail .head | exact .tail (.tail .head) | exact .tail (.tail (.tail .head)) | exact .tail (.tail (.tail (.tail .head))) | exact .tail (.tail (.tail (.tail (.tail .head))))) ?_))) (hD4  True.intro))
                    · skip
                      refine gs_val (val_loadA kag22 rfl (sees_mem (by repeat (first | exact .head _ | refine .tail _ ?_ | refine List.mem_append_right _ ?_))) rfl rfl) rfl rfl rfl ?_
                      refine gx_env (F := [(0, _), (1, _), (2, _), (3, _), (4, _), (5, _), (6, _), (16, _), (17, _), (20, _)]) (.cons rfl (.cons rfl (.cons rfl (.cons rfl (.cons rfl (.cons rfl (.cons rfl (.cons rfl (.cons rfl (.cons rfl .nil)))))))))) (gx_perm (by first | exact .refl _ | (repeat (first | exact .refl _ | refine perm_take (by first | exact .head | exact .tail .head | exact .tail (.tail .head) | exact .tail (.tail (.tail .head)) | exact .tail (.tail (.tail (.tail .head))) | exact .tail (.tail (.tail (.tail (.tail .head))))) ?_))) (hD5  True.intro))
                · rintro  _
                  refine ga_branch (rs := [0]) (by kernel_rfl) rfl (.cons (ls' := [true, true, false, true, true, false, false, false]) rfl rfl ?_ .nil)
                  refine gs_val (val_loadA kag22 rfl (sees_mem (by repeat (first | exact .head _ | refine .tail _ ?_ | refine List.mem_append_right _ ?_))) rfl rfl) rfl rfl rfl ?_
                  refine gx_env (F := [(0, _), (1, _), (2, _), (3, _), (4, _), (5, _), (6, _), (16, _), (17, _), (19, _), (20, _)]) (.cons rfl (.cons rfl (.cons rfl (.cons rfl (.cons rfl (.cons rfl (.cons rfl (.cons rfl (.cons rfl (.cons rfl (.cons rfl .nil))))))))))) (gx_perm (by first | exact .refl _ | (repeat (first | exact .refl _ | refine perm_take (by first | exact .head | exact .tail .head | exact .tail (.tail .head) | exact .tail (.tail (.tail .head)) | exact .tail (.tail (.tail (.tail .head))) | exact .tail (.tail (.tail (.tail (.tail .head))))) ?_))) (hD3  True.intro))
              · rintro  _
                refine ga_branch (rs := [1]) (by kernel_rfl) rfl (.cons (ls' := [true, true, false, true, true, false, false, false]) rfl rfl ?_ .nil)
                refine gs_val (val_loadA kag22 rfl (sees_mem (by repeat (first | exact .head _ | refine .tail _ ?_ | refine List.mem_append_right _ ?_))) rfl rfl) rfl rfl rfl ?_
                refine gx_env (F := [(0, _), (1, _), (2, _), (3, _), (4, _), (5, _), (6, _), (16, _), (17, _), (19, _), (20, _)]) (.cons rfl (.cons rfl (.cons rfl (.cons rfl (.cons rfl (.cons rfl (.cons rfl (.cons rfl (.cons rfl (.cons rfl (.cons rfl .nil))))))))))) (gx_perm (by first | exact .refl _ | (repeat (first | exact .refl _ | refine perm_take (by first | exact .head | exact .tail .head | exact .tail (.tail .head) | exact .tail (.tail (.tail .head)) | exact .tail (.tail (.tail (.tail .head))) | exact .tail (.tail (.tail (.tail (.tail .head))))) ?_))) (hD3  True.intro))
            · rintro  _
              refine ga_branch (rs := [2, 3]) (by kernel_rfl) rfl (.cons (ls' := [true, true, true, false, true, false, false, false]) rfl rfl ?_ (.cons (ls' := [true, true, false, true, true, false, false, false]) rfl rfl ?_ .nil))
              · skip
                refine gs_makes (enters kcall64 (.cons rfl (.cons rfl .nil))) (sign_spec s a) rfl rfl rfl (fun _ _ => trivial) (fun ⟨ba18, c18, N18⟩ h18 => ?_)
                refine gx_env (F := [(0, _), (1, _), (2, _), (3, _), (4, _), (5, _), (6, _), (16, _), (17, _), (18, _), (20, _)]) (.cons rfl (.cons rfl (.cons rfl (.cons rfl (.cons rfl (.cons rfl (.cons rfl (.cons rfl (.cons rfl (.cons rfl (.cons rfl .nil))))))))))) (gx_perm (by first | exact .refl _ | (repeat (first | exact .refl _ | refine perm_take (by first | exact .head | exact .tail .head | exact .tail (.tail .head) | exact .tail (.tail (.tail .head)) | exact .tail (.tail (.tail (.tail .head))) | exact .tail (.tail (.tail (.tail (.tail .head))))) ?_))) (hD2 ba18 c18 N18 (And.intro h18 True.intro)))
              · skip
                refine gs_val (val_loadA kag22 rfl (sees_mem (by repeat (first | exact .head _ | refine .tail _ ?_ | refine List.mem_append_right _ ?_))) rfl rfl) rfl rfl rfl ?_
                refine gx_env (F := [(0, _), (1, _), (2, _), (3, _), (4, _), (5, _), (6, _), (16, _), (17, _), (19, _), (20, _)]) (.cons rfl (.cons rfl (.cons rfl (.cons rfl (.cons rfl (.cons rfl (.cons rfl (.cons rfl (.cons rfl (.cons rfl (.cons rfl .nil))))))))))) (gx_perm (by first | exact .refl _ | (repeat (first | exact .refl _ | refine perm_take (by first | exact .head | exact .tail .head | exact .tail (.tail .head) | exact .tail (.tail (.tail .head)) | exact .tail (.tail (.tail (.tail .head))) | exact .tail (.tail (.tail (.tail (.tail .head))))) ?_))) (hD3  True.intro))
          · rintro  _
            refine ga_branch (rs := [2, 4]) (by kernel_rfl) rfl (.cons (ls' := [true, true, true, true, false, false, false, false]) rfl rfl ?_ (.cons (ls' := [true, true, false, true, true, false, false, false]) rfl rfl ?_ .nil))
            · skip
              refine gs_makes (enters kcall64 (.cons rfl (.cons rfl .nil))) (sign_spec s a) rfl rfl rfl (fun _ _ => trivial) (fun ⟨ba18, c18, N18⟩ h18 => ?_)
              refine gx_env (F := [(0, _), (1, _), (2, _), (3, _), (4, _), (5, _), (6, _), (16, _), (17, _), (18, _), (19, _)]) (.cons rfl (.cons rfl (.cons rfl (.cons rfl (.cons rfl (.cons rfl (.cons rfl (.cons rfl (.cons rfl (.cons rfl (.cons rfl .nil))))))))))) (gx_perm (by first | exact .refl _ | (repeat (first | exact .refl _ | refine perm_take (by first | exact .head | exact .tail .head | exact .tail (.tail .head) | exact .tail (.tail (.tail .head)) | exact .tail (.tail (.tail (.tail .head))) | exact .tail (.tail (.tail (.tail (.tail .head))))) ?_))) (hD1 ba18 c18 N18 (And.intro h18 True.intro)))
            · skip
              refine gs_val (val_loadA kag22 rfl (sees_mem (by repeat (first | exact .head _ | refine .tail _ ?_ | refine List.mem_append_right _ ?_))) rfl rfl) rfl rfl rfl ?_
              refine gx_env (F := [(0, _), (1, _), (2, _), (3, _), (4, _), (5, _), (6, _), (16, _), (17, _), (19, _), (20, _)]) (.cons rfl (.cons rfl (.cons rfl (.cons rfl (.cons rfl (.cons rfl (.cons rfl (.cons rfl (.cons rfl (.cons rfl (.cons rfl .nil))))))))))) (gx_perm (by first | exact .refl _ | (repeat (first | exact .refl _ | refine perm_take (by first | exact .head | exact .tail .head | exact .tail (.tail .head) | exact .tail (.tail (.tail .head)) | exact .tail (.tail (.tail (.tail .head))) | exact .tail (.tail (.tail (.tail (.tail .head))))) ?_))) (hD3  True.intro))
        · rintro  _
          refine ga_branch (rs := [2]) (by kernel_rfl) rfl (.cons (ls' := [true, true, true, true, true, false, false, false]) rfl rfl ?_ .nil)
          refine gs_makes (enters kcall64 (.cons rfl (.cons rfl .nil))) (sign_spec s a) rfl rfl rfl (fun _ _ => trivial) (fun ⟨ba18, c18, N18⟩ h18 => ?_)
          refine gx_env (F := [(0, _), (1, _), (2, _), (3, _), (4, _), (5, _), (6, _), (16, _), (17, _), (18, _), (19, _), (20, _)]) (.cons rfl (.cons rfl (.cons rfl (.cons rfl (.cons rfl (.cons rfl (.cons rfl (.cons rfl (.cons rfl (.cons rfl (.cons rfl (.cons rfl .nil)))))))))))) (gx_perm (by first | exact .refl _ | (repeat (first | exact .refl _ | refine perm_take (by first | exact .head | exact .tail .head | exact .tail (.tail .head) | exact .tail (.tail (.tail .head)) | exact .tail (.tail (.tail (.tail .head))) | exact .tail (.tail (.tail (.tail (.tail .head))))) ?_))) (hD0 ba18 c18 N18 (And.intro h18 True.intro)))
      · rintro ba18 c18 N18 ⟨h18, _⟩
        refine ga_branch (rs := [3]) (by kernel_rfl) rfl (.cons (ls' := [true, true, true, true, true, false, false, false]) rfl rfl ?_ .nil)
        refine gs_val (val_loadA kag22 rfl (sees_mem (by repeat (first | exact .head _ | refine .tail _ ?_ | refine List.mem_append_right _ ?_))) rfl rfl) rfl rfl rfl ?_
        refine gx_env (F := [(0, _), (1, _), (2, _), (3, _), (4, _), (5, _), (6, _), (16, _), (17, _), (18, _), (19, _), (20, _)]) (.cons rfl (.cons rfl (.cons rfl (.cons rfl (.cons rfl (.cons rfl (.cons rfl (.cons rfl (.cons rfl (.cons rfl (.cons rfl (.cons rfl .nil)))))))))))) (gx_perm (by first | exact .refl _ | (repeat (first | exact .refl _ | refine perm_take (by first | exact .head | exact .tail .head | exact .tail (.tail .head) | exact .tail (.tail (.tail .head)) | exact .tail (.tail (.tail (.tail .head))) | exact .tail (.tail (.tail (.tail (.tail .head))))) ?_))) (hD0 ba18 c18 N18 (And.intro h18 True.intro)))
    · rintro ba18 c18 N18 ⟨h18, _⟩
      refine ga_branch (rs := [4]) (by kernel_rfl) rfl (.cons (ls' := [true, true, true, true, true, false, false, false]) rfl rfl ?_ .nil)
      refine gs_val (val_loadA kag22 rfl (sees_mem (by repeat (first | exact .head _ | refine .tail _ ?_ | refine List.mem_append_right _ ?_))) rfl rfl) rfl rfl rfl ?_
      refine gx_env (F := [(0, _), (1, _), (2, _), (3, _), (4, _), (5, _), (6, _), (16, _), (17, _), (18, _), (19, _), (20, _)]) (.cons rfl (.cons rfl (.cons rfl (.cons rfl (.cons rfl (.cons rfl (.cons rfl (.cons rfl (.cons rfl (.cons rfl (.cons rfl (.cons rfl .nil)))))))))))) (gx_perm (by first | exact .refl _ | (repeat (first | exact .refl _ | refine perm_take (by first | exact .head | exact .tail .head | exact .tail (.tail .head) | exact .tail (.tail (.tail .head)) | exact .tail (.tail (.tail (.tail .head))) | exact .tail (.tail (.tail (.tail (.tail .head))))) ?_))) (hD0 ba18 c18 N18 (And.intro h18 True.intro)))
  · rintro ba18 c18 N18 ⟨h18, _⟩
    refine ga_branch (rs := [5]) (by kernel_rfl) rfl (.cons (ls' := [true, true, true, true, true, true, false, false]) rfl rfl ?_ .nil)
    refine gs_makes (enters kcall64 (.cons rfl (.cons rfl .nil))) (sign_spec s b) rfl rfl rfl (fun _ _ => trivial) (fun ⟨ba21, c21, N21⟩ h21 => ?_)
    refine ga_take (i := 6) (ls' := [true, true, true, true, true, true, true, false]) rfl (by kernel_rfl) rfl (fun _ _ _ => val_assign rfl) rfl rfl rfl ?_
    refine ga_take (i := 7) (ls' := [true, true, true, true, true, true, true, true]) rfl (by kernel_rfl) rfl (fun _ _ _ => val_assign rfl) rfl rfl rfl ?_
    refine ga_done (by kernel_rfl) ?_
    refine gk_seq ?_
    refine gc_seq ?_
    refine ga_start (m := 8) (ls := [false, false, false, false, false, false, false, false]) kmixed rfl rfl ?_
    apply share2 (α := Nat) (β := Nat) (m' := 2) (ls' := [true, true, true, true, true, true, false, false])
    · intro hD0
      apply share1 (α := Nat) (m' := 3) (ls' := [true, true, true, true, true, false, false, false])
      · intro hD1
        apply share1 (α := Nat) (m' := 3) (ls' := [true, true, true, true, false, true, false, false])
        · intro hD2
          apply share2 (α := Nat) (β := Nat) (m' := 3) (ls' := [true, true, true, false, true, true, false, false])
          · intro hD3
            apply share1 (α := Nat) (m' := 4) (ls' := [true, true, true, false, true, false, false, false])
            · intro hD4
              apply share1 (α := Nat) (m' := 4) (ls' := [true, true, true, false, false, true, false, false])
              · intro hD5
                apply share2 (α := Nat) (β := Nat) (m' := 4) (ls' := [true, true, false, false, true, true, false, false])
                · intro hD6
                  apply share2 (α := Nat) (β := Nat) (m' := 4) (ls' := [true, false, true, false, true, true, false, false])
                  · intro hD7
                    apply share0  (m' := 5) (ls' := [true, true, true, false, false, false, false, false])
                    · intro hD8
                      apply share1 (α := Nat) (m' := 5) (ls' := [true, true, false, false, true, false, false, false])
                      · intro hD9
                        apply share1 (α := Nat) (m' := 5) (ls' := [true, true, false, false, false, true, false, false])
                        · intro hD10
                          apply share1 (α := Nat) (m' := 5) (ls' := [true, false, true, false, true, false, false, false])
                          · intro hD11
                            apply share1 (α := Nat) (m' := 5) (ls' := [true, false, true, false, false, true, false, false])
                            · intro hD12
                              apply share2 (α := Nat) (β := Nat) (m' := 5) (ls' := [true, false, false, false, true, true, false, false])
                              · intro hD13
                                apply share2 (α := Nat) (β := Nat) (m' := 5) (ls' := [false, false, true, false, true, true, false, false])
                                · intro hD14
                                  apply share0  (m' := 6) (ls' := [true, false, true, false, false, false, false, false])
                                  · intro hD15
                                    apply share1 (α := Nat) (m' := 6) (ls' := [true, false, false, false, true, false, false, false])
                                    · intro hD16
                                      apply share1 (α := Nat) (m' := 6) (ls' := [true, false, false, false, false, true, false, false])
                                      · intro hD17
                                        apply share1 (α := Nat) (m' := 6) (ls' := [false, false, true, false, true, false, false, false])
                                        · intro hD18
                                          apply share1 (α := Nat) (m' := 6) (ls' := [false, false, true, false, false, true, false, false])
                                          · intro hD19
                                            apply share2 (α := Nat) (β := Nat) (m' := 6) (ls' := [false, false, false, false, true, true, false, false])
                                            · intro hD20
                                              refine ga_branch (rs := [0, 2, 4, 5]) (by kernel_rfl) rfl (.cons (ls' := [true, false, false, false, false, false, false, false]) rfl rfl ?_ (.cons (ls' := [false, false, true, false, false, false, false, false]) rfl rfl ?_ (.cons (ls' := [false, false, false, false, true, false, false, false]) rfl rfl ?_ (.cons (ls' := [false, false, false, false, false, true, false, false]) rfl rfl ?_ .nil))))
                                              · skip
                                                refine gs_val (val_loadA kag22 rfl (sees_mem (by repeat (first | exact .head _ | refine .tail _ ?_ | refine List.mem_append_right _ ?_))) rfl rfl) rfl rfl rfl ?_
                                                refine ga_branch (rs := [1, 2, 4, 5]) (by kernel_rfl) rfl (.cons (ls' := [true, true, false, false, false, false, false, false]) rfl rfl ?_ (.cons (ls' := [true, false, true, false, false, false, false, false]) rfl rfl ?_ (.cons (ls' := [true, false, false, false, true, false, false, false]) rfl rfl ?_ (.cons (ls' := [true, false, false, false, false, true, false, false]) rfl rfl ?_ .nil))))
                                                · skip
                                                  refine gs_pure (enters kcall66 (.cons rfl .nil)) (reach_spec a) rfl rfl rfl (fun _ _ => trivial) ?_
                                                  refine ga_branch (rs := [2, 4, 5]) (by kernel_rfl) rfl (.cons (ls' := [true, true, true, false, false, false, false, false]) rfl rfl ?_ (.cons (ls' := [true, true, false, false, true, false, false, false]) rfl rfl ?_ (.cons (ls' := [true, true, false, false, false, true, false, false]) rfl rfl ?_ .nil)))
                                                  · skip
                                                    refine gs_val (val_loadA kag22 rfl (sees_mem (by repeat (first | exact .head _ | refine .tail _ ?_ | refine List.mem_append_right _ ?_))) rfl rfl) rfl rfl rfl ?_
                                                    refine gx_env (F := [(0, _), (1, _), (2, _), (3, _), (4, _), (5, _), (6, _), (7, _), (8, _), (16, _), (17, _), (18, _), (19, _), (20, _), (21, _), (22, _), (23, _), (24, _)]) (.cons rfl (.cons rfl (.cons rfl (.cons rfl (.cons rfl (.cons rfl (.cons rfl (.cons rfl (.cons rfl (.cons rfl (.cons rfl (.cons rfl (.cons rfl (.cons rfl (.cons rfl (.cons rfl (.cons rfl (.cons rfl .nil)))))))))))))))))) (gx_perm (by first | exact .refl _ | (repeat (first | exact .refl _ | refine perm_take (by first | exact .head | exact .tail .head | exact .tail (.tail .head) | exact .tail (.tail (.tail .head)) | exact .tail (.tail (.tail (.tail .head))) | exact .tail (.tail (.tail (.tail (.tail .head))))) ?_))) (hD8  True.intro))
                                                  · skip
                                                    refine gs_alloc kze66 rfl rfl rfl (fun b9 => ?_)
                                                    refine gx_env (F := [(0, _), (1, _), (2, _), (3, _), (4, _), (5, _), (6, _), (7, _), (8, _), (9, _), (16, _), (17, _), (18, _), (19, _), (20, _), (21, _), (22, _), (23, _)]) (.cons rfl (.cons rfl (.cons rfl (.cons rfl (.cons rfl (.cons rfl (.cons rfl (.cons rfl (.cons rfl (.cons rfl (.cons rfl (.cons rfl (.cons rfl (.cons rfl (.cons rfl (.cons rfl (.cons rfl (.cons rfl .nil)))))))))))))))))) (gx_perm (by first | exact .refl _ | (repeat (first | exact .refl _ | refine perm_take (by first | exact .head | exact .tail .head | exact .tail (.tail .head) | exact .tail (.tail (.tail .head)) | exact .tail (.tail (.tail (.tail .head))) | exact .tail (.tail (.tail (.tail (.tail .head))))) ?_))) (hD9 b9 True.intro))
                                                  · skip
                                                    refine gs_alloc kze66 rfl rfl rfl (fun b10 => ?_)
                                                    refine gx_env (F := [(0, _), (1, _), (2, _), (3, _), (4, _), (5, _), (6, _), (7, _), (8, _), (10, _), (16, _), (17, _), (18, _), (19, _), (20, _), (21, _), (22, _), (23, _)]) (.cons rfl (.cons rfl (.cons rfl (.cons rfl (.cons rfl (.cons rfl (.cons rfl (.cons rfl (.cons rfl (.cons rfl (.cons rfl (.cons rfl (.cons rfl (.cons rfl (.cons rfl (.cons rfl (.cons rfl (.cons rfl .nil)))))))))))))))))) (gx_perm (by first | exact .refl _ | (repeat (first | exact .refl _ | refine perm_take (by first | exact .head | exact .tail .head | exact .tail (.tail .head) | exact .tail (.tail (.tail .head)) | exact .tail (.tail (.tail (.tail .head))) | exact .tail (.tail (.tail (.tail (.tail .head))))) ?_))) (hD10 b10 True.intro))
                                                · skip
                                                  refine gs_val (val_loadA kag22 rfl (sees_mem (by repeat (first | exact .head _ | refine .tail _ ?_ | refine List.mem_append_right _ ?_))) rfl rfl) rfl rfl rfl ?_
                                                  refine gx_env (F := [(0, _), (1, _), (2, _), (3, _), (4, _), (5, _), (6, _), (7, _), (8, _), (16, _), (17, _), (18, _), (19, _), (20, _), (21, _), (22, _), (24, _)]) (.cons rfl (.cons rfl (.cons rfl (.cons rfl (.cons rfl (.cons rfl (.cons rfl (.cons rfl (.cons rfl (.cons rfl (.cons rfl (.cons rfl (.cons rfl (.cons rfl (.cons rfl (.cons rfl (.cons rfl .nil))))))))))))))))) (gx_perm (by first | exact .refl _ | (repeat (first | exact .refl _ | refine perm_take (by first | exact .head | exact .tail .head | exact .tail (.tail .head) | exact .tail (.tail (.tail .head)) | exact .tail (.tail (.tail (.tail .head))) | exact .tail (.tail (.tail (.tail (.tail .head))))) ?_))) (hD15  True.intro))
                                                · skip
                                                  refine gs_alloc kze66 rfl rfl rfl (fun b9 => ?_)
                                                  refine gx_env (F := [(0, _), (1, _), (2, _), (3, _), (4, _), (5, _), (6, _), (7, _), (8, _), (9, _), (16, _), (17, _), (18, _), (19, _), (20, _), (21, _), (22, _)]) (.cons rfl (.cons rfl (.cons rfl (.cons rfl (.cons rfl (.cons rfl (.cons rfl (.cons rfl (.cons rfl (.cons rfl (.cons rfl (.cons rfl (.cons rfl (.cons rfl (.cons rfl (.cons rfl (.cons rfl .nil))))))))))))))))) (gx_perm (by first | exact .refl _ | (repeat (first | exact .refl _ | refine perm_take (by first | exact .head | exact .tail .head | exact .tail (.tail .head) | exact .tail (.tail (.tail .head)) | exact .tail (.tail (.tail (.tail .head))) | exact .tail (.tail (.tail (.tail (.tail .head))))) ?_))) (hD16 b9 True.intro))
                                                · skip
                                                  refine gs_alloc kze66 rfl rfl rfl (fun b10 => ?_)
                                                  refine gx_env (F := [(0, _), (1, _), (2, _), (3, _), (4, _), (5, _), (6, _), (7, _), (8, _), (10, _), (16, _), (17, _), (18, _), (19, _), (20, _), (21, _), (22, _)]) (.cons rfl (.cons rfl (.cons rfl (.cons rfl (.cons rfl (.cons rfl (.cons rfl (.cons rfl (.cons rfl (.cons rfl (.cons rfl (.cons rfl (.cons rfl (.cons rfl (.cons rfl (.cons rfl (.cons rfl .nil))))))))))))))))) (gx_perm (by first | exact .refl _ | (repeat (first | exact .refl _ | refine perm_take (by first | exact .head | exact .tail .head | exact .tail (.tail .head) | exact .tail (.tail (.tail .head)) | exact .tail (.tail (.tail (.tail .head))) | exact .tail (.tail (.tail (.tail (.tail .head))))) ?_))) (hD17 b10 True.intro))
                                              · skip
                                                refine gs_val (val_loadA kag22 rfl (sees_mem (by repeat (first | exact .head _ | refine .tail _ ?_ | refine List.mem_append_right _ ?_))) rfl rfl) rfl rfl rfl ?_
                                                refine ga_branch (rs := [0, 4, 5]) (by kernel_rfl) rfl (.cons (ls' := [true, false, true, false, false, false, false, false]) rfl rfl ?_ (.cons (ls' := [false, false, true, false, true, false, false, false]) rfl rfl ?_ (.cons (ls' := [false, false, true, false, false, true, false, false]) rfl rfl ?_ .nil)))
                                                · skip
                                                  refine gs_val (val_loadA kag22 rfl (sees_mem (by repeat (first | exact .head _ | refine .tail _ ?_ | refine List.mem_append_right _ ?_))) rfl rfl) rfl rfl rfl ?_
                                                  refine gx_env (F := [(0, _), (1, _), (2, _), (3, _), (4, _), (5, _), (6, _), (7, _), (8, _), (16, _), (17, _), (18, _), (19, _), (20, _), (21, _), (22, _), (24, _)]) (.cons rfl (.cons rfl (.cons rfl (.cons rfl (.cons rfl (.cons rfl (.cons rfl (.cons rfl (.cons rfl (.cons rfl (.cons rfl (.cons rfl (.cons rfl (.cons rfl (.cons rfl (.cons rfl (.cons rfl .nil))))))))))))))))) (gx_perm (by first | exact .refl _ | (repeat (first | exact .refl _ | refine perm_take (by first | exact .head | exact .tail .head | exact .tail (.tail .head) | exact .tail (.tail (.tail .head)) | exact .tail (.tail (.tail (.tail .head))) | exact .tail (.tail (.tail (.tail (.tail .head))))) ?_))) (hD15  True.intro))
                                                · skip
                                                  refine gs_alloc kze66 rfl rfl rfl (fun b9 => ?_)
                                                  refine gx_env (F := [(0, _), (1, _), (2, _), (3, _), (4, _), (5, _), (6, _), (7, _), (8, _), (9, _), (16, _), (17, _), (18, _), (19, _), (20, _), (21, _), (24, _)]) (.cons rfl (.cons rfl (.cons rfl (.cons rfl (.cons rfl (.cons rfl (.cons rfl (.cons rfl (.cons rfl (.cons rfl (.cons rfl (.cons rfl (.cons rfl (.cons rfl (.cons rfl (.cons rfl (.cons rfl .nil))))))))))))))))) (gx_perm (by first | exact .refl _ | (repeat (first | exact .refl _ | refine perm_take (by first | exact .head | exact .tail .head | exact .tail (.tail .head) | exact .tail (.tail (.tail .head)) | exact .tail (.tail (.tail (.tail .head))) | exact .tail (.tail (.tail (.tail (.tail .head))))) ?_))) (hD18 b9 True.intro))
                                                · skip
                                                  refine gs_alloc kze66 rfl rfl rfl (fun b10 => ?_)
                                                  refine gx_env (F := [(0, _), (1, _), (2, _), (3, _), (4, _), (5, _), (6, _), (7, _), (8, _), (10, _), (16, _), (17, _), (18, _), (19, _), (20, _), (21, _), (24, _)]) (.cons rfl (.cons rfl (.cons rfl (.cons rfl (.cons rfl (.cons rfl (.cons rfl (.cons rfl (.cons rfl (.cons rfl (.cons rfl (.cons rfl (.cons rfl (.cons rfl (.cons rfl (.cons rfl (.cons rfl .nil))))))))))))))))) (gx_perm (by first | exact .refl _ | (repeat (first | exact .refl _ | refine perm_take (by first | exact .head | exact .tail .head | exact .tail (.tail .head) | exact .tail (.tail (.tail .head)) | exact .tail (.tail (.tail (.tail .head))) | exact .tail (.tail (.tail (.tail (.tail .head))))) ?_))) (hD19 b10 True.intro))
                                              · skip
                                                refine gs_alloc kze66 rfl rfl rfl (fun b9 => ?_)
                                                refine ga_branch (rs := [0, 2, 5]) (by kernel_rfl) rfl (.cons (ls' := [true, false, false, false, true, false, false, false]) rfl rfl ?_ (.cons (ls' := [false, false, true, false, true, false, false, false]) rfl rfl ?_ (.cons (ls' := [false, false, false, false, true, true, false, false]) rfl rfl ?_ .nil)))
                                                · skip
                                                  refine gs_val (val_loadA kag22 rfl (sees_mem (by repeat (first | exact .head _ | refine .tail _ ?_ | refine List.mem_append_right _ ?_))) rfl rfl) rfl rfl rfl ?_
                                                  refine gx_env (F := [(0, _), (1, _), (2, _), (3, _), (4, _), (5, _), (6, _), (7, _), (8, _), (9, _), (16, _), (17, _), (18, _), (19, _), (20, _), (21, _), (22, _)]) (.cons rfl (.cons rfl (.cons rfl (.cons rfl (.cons rfl (.cons rfl (.cons rfl (.cons rfl (.cons rfl (.cons rfl (.cons rfl (.cons rfl (.cons rfl (.cons rfl (.cons rfl (.cons rfl (.cons rfl .nil))))))))))))))))) (gx_perm (by first | exact .refl _ | (repeat (first | exact .refl _ | refine perm_take (by first | exact .head | exact .tail .head | exact .tail (.tail .head) | exact .tail (.tail (.tail .head)) | exact .tail (.tail (.tail (.tail .head))) | exact .tail (.tail (.tail (.tail (.tail .head))))) ?_))) (hD16 b9 True.intro))
                                                · skip
                                                  refine gs_val (val_loadA kag22 rfl (sees_mem (by repeat (first | exact .head _ | refine .tail _ ?_ | refine List.mem_append_right _ ?_))) rfl rfl) rfl rfl rfl ?_
                                                  refine gx_env (F := [(0, _), (1, _), (2, _), (3, _), (4, _), (5, _), (6, _), (7, _), (8, _), (9, _), (16, _), (17, _), (18, _), (19, _), (20, _), (21, _), (24, _)]) (.cons rfl (.cons rfl (.cons rfl (.cons rfl (.cons rfl (.cons rfl (.cons rfl (.cons rfl (.cons rfl (.cons rfl (.cons rfl (.cons rfl (.cons rfl (.cons rfl (.cons rfl (.cons rfl (.cons rfl .nil))))))))))))))))) (gx_perm (by first | exact .refl _ | (repeat (first | exact .refl _ | refine perm_take (by first | exact .head | exact .tail .head | exact .tail (.tail .head) | exact .tail (.tail (.tail .head)) | exact .tail (.tail (.tail (.tail .head))) | exact .tail (.tail (.tail (.tail (.tail .head))))) ?_))) (hD18 b9 True.intro))
                                                · skip
                                                  refine gs_alloc kze66 rfl rfl rfl (fun b10 => ?_)
                                                  refine gx_env (F := [(0, _), (1, _), (2, _), (3, _), (4, _), (5, _), (6, _), (7, _), (8, _), (9, _), (10, _), (16, _), (17, _), (18, _), (19, _), (20, _), (21, _)]) (.cons rfl (.cons rfl (.cons rfl (.cons rfl (.cons rfl (.cons rfl (.cons rfl (.cons rfl (.cons rfl (.cons rfl (.cons rfl (.cons rfl (.cons rfl (.cons rfl (.cons rfl (.cons rfl (.cons rfl .nil))))))))))))))))) (gx_perm (by first | exact .refl _ | (repeat (first | exact .refl _ | refine perm_take (by first | exact .head | exact .tail .head | exact .tail (.tail .head) | exact .tail (.tail (.tail .head)) | exact .tail (.tail (.tail (.tail .head))) | exact .tail (.tail (.tail (.tail (.tail .head))))) ?_))) (hD20 b9 b10 True.intro))
                                              · skip
                                                refine gs_alloc kze66 rfl rfl rfl (fun b10 => ?_)
                                                refine ga_branch (rs := [0, 2, 4]) (by kernel_rfl) rfl (.cons (ls' := [true, false, false, false, false, true, false, false]) rfl rfl ?_ (.cons (ls' := [false, false, true, false, false, true, false, false]) rfl rfl ?_ (.cons (ls' := [false, false, false, false, true, true, false, false]) rfl rfl ?_ .nil)))
                                                · skip
                                                  refine gs_val (val_loadA kag22 rfl (sees_mem (by repeat (first | exact .head _ | refine .tail _ ?_ | refine List.mem_append_right _ ?_))) rfl rfl) rfl rfl rfl ?_
                                                  refine gx_env (F := [(0, _), (1, _), (2, _), (3, _), (4, _), (5, _), (6, _), (7, _), (8, _), (10, _), (16, _), (17, _), (18, _), (19, _), (20, _), (21, _), (22, _)]) (.cons rfl (.cons rfl (.cons rfl (.cons rfl (.cons rfl (.cons rfl (.cons rfl (.cons rfl (.cons rfl (.cons rfl (.cons rfl (.cons rfl (.cons rfl (.cons rfl (.cons rfl (.cons rfl (.cons rfl .nil))))))))))))))))) (gx_perm (by first | exact .refl _ | (repeat (first | exact .refl _ | refine perm_take (by first | exact .head | exact .tail .head | exact .tail (.tail .head) | exact .tail (.tail (.tail .head)) | exact .tail (.tail (.tail (.tail .head))) | exact .tail (.tail (.tail (.tail (.tail .head))))) ?_))) (hD17 b10 True.intro))
                                                · skip
                                                  refine gs_val (val_loadA kag22 rfl (sees_mem (by repeat (first | exact .head _ | refine .tail _ ?_ | refine List.mem_append_right _ ?_))) rfl rfl) rfl rfl rfl ?_
                                                  refine gx_env (F := [(0, _), (1, _), (2, _), (3, _), (4, _), (5, _), (6, _), (7, _), (8, _), (10, _), (16, _), (17, _), (18, _), (19, _), (20, _), (21, _), (24, _)]) (.cons rfl (.cons rfl (.cons rfl (.cons rfl (.cons rfl (.cons rfl (.cons rfl (.cons rfl (.cons rfl (.cons rfl (.cons rfl (.cons rfl (.cons rfl (.cons rfl (.cons rfl (.cons rfl (.cons rfl .nil))))))))))))))))) (gx_perm (by first | exact .refl _ | (repeat (first | exact .refl _ | refine perm_take (by first | exact .head | exact .tail .head | exact .tail (.tail .head) | exact .tail (.tail (.tail .head)) | exact .tail (.tail (.tail (.tail .head))) | exact .tail (.tail (.tail (.tail (.tail .head))))) ?_))) (hD19 b10 True.intro))
                                                · skip
                                                  refine gs_alloc kze66 rfl rfl rfl (fun b9 => ?_)
                                                  refine gx_env (F := [(0, _), (1, _), (2, _), (3, _), (4, _), (5, _), (6, _), (7, _), (8, _), (9, _), (10, _), (16, _), (17, _), (18, _), (19, _), (20, _), (21, _)]) (.cons rfl (.cons rfl (.cons rfl (.cons rfl (.cons rfl (.cons rfl (.cons rfl (.cons rfl (.cons rfl (.cons rfl (.cons rfl (.cons rfl (.cons rfl (.cons rfl (.cons rfl (.cons rfl (.cons rfl .nil))))))))))))))))) (gx_perm (by first | exact .refl _ | (repeat (first | exact .refl _ | refine perm_take (by first | exact .head | exact .tail .head | exact .tail (.tail .head) | exact .tail (.tail (.tail .head)) | exact .tail (.tail (.tail (.tail .head))) | exact .tail (.tail (.tail (.tail (.tail .head))))) ?_))) (hD20 b9 b10 True.intro))
                                            · rintro b9 b10 _
                                              refine ga_branch (rs := [0, 2]) (by kernel_rfl) rfl (.cons (ls' := [true, false, false, false, true, true, false, false]) rfl rfl ?_ (.cons (ls' := [false, false, true, false, true, true, false, false]) rfl rfl ?_ .nil))
                                              · skip
                                                refine gs_val (val_loadA kag22 rfl (sees_mem (by repeat (first | exact .head _ | refine .tail _ ?_ | refine List.mem_append_right _ ?_))) rfl rfl) rfl rfl rfl ?_
                                                refine gx_env (F := [(0, _), (1, _), (2, _), (3, _), (4, _), (5, _), (6, _), (7, _), (8, _), (9, _), (10, _), (16, _), (17, _), (18, _), (19, _), (20, _), (21, _), (22, _)]) (.cons rfl (.cons rfl (.cons rfl (.cons rfl (.cons rfl (.cons rfl (.cons rfl (.cons rfl (.cons rfl (.cons rfl (.cons rfl (.cons rfl (.cons rfl (.cons rfl (.cons rfl (.cons rfl (.cons rfl (.cons rfl .nil)))))))))))))))))) (gx_perm (by first | exact .refl _ | (repeat (first | exact .refl _ | refine perm_take (by first | exact .head | exact .tail .head | exact .tail (.tail .head) | exact .tail (.tail (.tail .head)) | exact .tail (.tail (.tail (.tail .head))) | exact .tail (.tail (.tail (.tail (.tail .head))))) ?_))) (hD13 b9 b10 True.intro))
                                              · skip
                                                refine gs_val (val_loadA kag22 rfl (sees_mem (by repeat (first | exact .head _ | refine .tail _ ?_ | refine List.mem_append_right _ ?_))) rfl rfl) rfl rfl rfl ?_
                                                refine gx_env (F := [(0, _), (1, _), (2, _), (3, _), (4, _), (5, _), (6, _), (7, _), (8, _), (9, _), (10, _), (16, _), (17, _), (18, _), (19, _), (20, _), (21, _), (24, _)]) (.cons rfl (.cons rfl (.cons rfl (.cons rfl (.cons rfl (.cons rfl (.cons rfl (.cons rfl (.cons rfl (.cons rfl (.cons rfl (.cons rfl (.cons rfl (.cons rfl (.cons rfl (.cons rfl (.cons rfl (.cons rfl .nil)))))))))))))))))) (gx_perm (by first | exact .refl _ | (repeat (first | exact .refl _ | refine perm_take (by first | exact .head | exact .tail .head | exact .tail (.tail .head) | exact .tail (.tail (.tail .head)) | exact .tail (.tail (.tail (.tail .head))) | exact .tail (.tail (.tail (.tail (.tail .head))))) ?_))) (hD14 b9 b10 True.intro))
                                          · rintro b10 _
                                            refine ga_branch (rs := [0, 4]) (by kernel_rfl) rfl (.cons (ls' := [true, false, true, false, false, true, false, false]) rfl rfl ?_ (.cons (ls' := [false, false, true, false, true, true, false, false]) rfl rfl ?_ .nil))
                                            · skip
                                              refine gs_val (val_loadA kag22 rfl (sees_mem (by repeat (first | exact .head _ | refine .tail _ ?_ | refine List.mem_append_right _ ?_))) rfl rfl) rfl rfl rfl ?_
                                              refine gx_env (F := [(0, _), (1, _), (2, _), (3, _), (4, _), (5, _), (6, _), (7, _), (8, _), (10, _), (16, _), (17, _), (18, _), (19, _), (20, _), (21, _), (22, _), (24, _)]) (.cons rfl (.cons rfl (.cons rfl (.cons rfl (.cons rfl (.cons rfl (.cons rfl (.cons rfl (.cons rfl (.cons rfl (.cons rfl (.cons rfl (.cons rfl (.cons rfl (.cons rfl (.cons rfl (.cons rfl (.cons rfl .nil)))))))))))))))))) (gx_perm (by first | exact .refl _ | (repeat (first | exact .refl _ | refine perm_take (by first | exact .head | exact .tail .head | exact .tail (.tail .head) | exact .tail (.tail (.tail .head)) | exact .tail (.tail (.tail (.tail .head))) | exact .tail (.tail (.tail (.tail (.tail .head))))) ?_))) (hD12 b10 True.intro))
                                            · skip
                                              refine gs_alloc kze66 rfl rfl rfl (fun b9 => ?_)
                                              refine gx_env (F := [(0, _), (1, _), (2, _), (3, _), (4, _), (5, _), (6, _), (7, _), (8, _), (9, _), (10, _), (16, _), (17, _), (18, _), (19, _), (20, _), (21, _), (24, _)]) (.cons rfl (.cons rfl (.cons rfl (.cons rfl (.cons rfl (.cons rfl (.cons rfl (.cons rfl (.cons rfl (.cons rfl (.cons rfl (.cons rfl (.cons rfl (.cons rfl (.cons rfl (.cons rfl (.cons rfl (.cons rfl .nil)))))))))))))))))) (gx_perm (by first | exact .refl _ | (repeat (first | exact .refl _ | refine perm_take (by first | exact .head | exact .tail .head | exact .tail (.tail .head) | exact .tail (.tail (.tail .head)) | exact .tail (.tail (.tail (.tail .head))) | exact .tail (.tail (.tail (.tail (.tail .head))))) ?_))) (hD14 b9 b10 True.intro))
                                        · rintro b9 _
                                          refine ga_branch (rs := [0, 5]) (by kernel_rfl) rfl (.cons (ls' := [true, false, true, false, true, false, false, false]) rfl rfl ?_ (.cons (ls' := [false, false, true, false, true, true, false, false]) rfl rfl ?_ .nil))
                                          · skip
                                            refine gs_val (val_loadA kag22 rfl (sees_mem (by repeat (first | exact .head _ | refine .tail _ ?_ | refine List.mem_append_right _ ?_))) rfl rfl) rfl rfl rfl ?_
                                            refine gx_env (F := [(0, _), (1, _), (2, _), (3, _), (4, _), (5, _), (6, _), (7, _), (8, _), (9, _), (16, _), (17, _), (18, _), (19, _), (20, _), (21, _), (22, _), (24, _)]) (.cons rfl (.cons rfl (.cons rfl (.cons rfl (.cons rfl (.cons rfl (.cons rfl (.cons rfl (.cons rfl (.cons rfl (.cons rfl (.cons rfl (.cons rfl (.cons rfl (.cons rfl (.cons rfl (.cons rfl (.cons rfl .nil)))))))))))))))))) (gx_perm (by first | exact .refl _ | (repeat (first | exact .refl _ | refine perm_take (by first | exact .head | exact .tail .head | exact .tail (.tail .head) | exact .tail (.tail (.tail .head)) | exact .tail (.tail (.tail (.tail .head))) | exact .tail (.tail (.tail (.tail (.tail .head))))) ?_))) (hD11 b9 True.intro))
                                          · skip
                                            refine gs_alloc kze66 rfl rfl rfl (fun b10 => ?_)
                                            refine gx_env (F := [(0, _), (1, _), (2, _), (3, _), (4, _), (5, _), (6, _), (7, _), (8, _), (9, _), (10, _), (16, _), (17, _), (18, _), (19, _), (20, _), (21, _), (24, _)]) (.cons rfl (.cons rfl (.cons rfl (.cons rfl (.cons rfl (.cons rfl (.cons rfl (.cons rfl (.cons rfl (.cons rfl (.cons rfl (.cons rfl (.cons rfl (.cons rfl (.cons rfl (.cons rfl (.cons rfl (.cons rfl .nil)))))))))))))))))) (gx_perm (by first | exact .refl _ | (repeat (first | exact .refl _ | refine perm_take (by first | exact .head | exact .tail .head | exact .tail (.tail .head) | exact .tail (.tail (.tail .head)) | exact .tail (.tail (.tail (.tail .head))) | exact .tail (.tail (.tail (.tail (.tail .head))))) ?_))) (hD14 b9 b10 True.intro))
                                      · rintro b10 _
                                        refine ga_branch (rs := [1, 2, 4]) (by kernel_rfl) rfl (.cons (ls' := [true, true, false, false, false, true, false, false]) rfl rfl ?_ (.cons (ls' := [true, false, true, false, false, true, false, false]) rfl rfl ?_ (.cons (ls' := [true, false, false, false, true, true, false, false]) rfl rfl ?_ .nil)))
                                        · skip
                                          refine gs_pure (enters kcall66 (.cons rfl .nil)) (reach_spec a) rfl rfl rfl (fun _ _ => trivial) ?_
                                          refine gx_env (F := [(0, _), (1, _), (2, _), (3, _), (4, _), (5, _), (6, _), (7, _), (8, _), (10, _), (16, _), (17, _), (18, _), (19, _), (20, _), (21, _), (22, _), (23, _)]) (.cons rfl (.cons rfl (.cons rfl (.cons rfl (.cons rfl (.cons rfl (.cons rfl (.cons rfl (.cons rfl (.cons rfl (.cons rfl (.cons rfl (.cons rfl (.cons rfl (.cons rfl (.cons rfl (.cons rfl (.cons rfl .nil)))))))))))))))))) (gx_perm (by first | exact .refl _ | (repeat (first | exact .refl _ | refine perm_take (by first | exact .head | exact .tail .head | exact .tail (.tail .head) | exact .tail (.tail (.tail .head)) | exact .tail (.tail (.tail (.tail .head))) | exact .tail (.tail (.tail (.tail (.tail .head))))) ?_))) (hD10 b10 True.intro))
                                        · skip
                                          refine gs_val (val_loadA kag22 rfl (sees_mem (by repeat (first | exact .head _ | refine .tail _ ?_ | refine List.mem_append_right _ ?_))) rfl rfl) rfl rfl rfl ?_
                                          refine gx_env (F := [(0, _), (1, _), (2, _), (3, _), (4, _), (5, _), (6, _), (7, _), (8, _), (10, _), (16, _), (17, _), (18, _), (19, _), (20, _), (21, _), (22, _), (24, _)]) (.cons rfl (.cons rfl (.cons rfl (.cons rfl (.cons rfl (.cons rfl (.cons rfl (.cons rfl (.cons rfl (.cons rfl (.cons rfl (.cons rfl (.cons rfl (.cons rfl (.cons rfl (.cons rfl (.cons rfl (.cons rfl .nil)))))))))))))))))) (gx_perm (by first | exact .refl _ | (repeat (first | exact .refl _ | refine perm_take (by first | exact .head | exact .tail .head | exact .tail (.tail .head) | exact .tail (.tail (.tail .head)) | exact .tail (.tail (.tail (.tail .head))) | exact .tail (.tail (.tail (.tail (.tail .head))))) ?_))) (hD12 b10 True.intro))
                                        · skip
                                          refine gs_alloc kze66 rfl rfl rfl (fun b9 => ?_)
                                          refine gx_env (F := [(0, _), (1, _), (2, _), (3, _), (4, _), (5, _), (6, _), (7, _), (8, _), (9, _), (10, _), (16, _), (17, _), (18, _), (19, _), (20, _), (21, _), (22, _)]) (.cons rfl (.cons rfl (.cons rfl (.cons rfl (.cons rfl (.cons rfl (.cons rfl (.cons rfl (.cons rfl (.cons rfl (.cons rfl (.cons rfl (.cons rfl (.cons rfl (.cons rfl (.cons rfl (.cons rfl (.cons rfl .nil)))))))))))))))))) (gx_perm (by first | exact .refl _ | (repeat (first | exact .refl _ | refine perm_take (by first | exact .head | exact .tail .head | exact .tail (.tail .head) | exact .tail (.tail (.tail .head)) | exact .tail (.tail (.tail (.tail .head))) | exact .tail (.tail (.tail (.tail (.tail .head))))) ?_))) (hD13 b9 b10 True.intro))
                                    · rintro b9 _
                                      refine ga_branch (rs := [1, 2, 5]) (by kernel_rfl) rfl (.cons (ls' := [true, true, false, false, true, false, false, false]) rfl rfl ?_ (.cons (ls' := [true, false, true, false, true, false, false, false]) rfl rfl ?_ (.cons (ls' := [true, false, false, false, true, true, false, false]) rfl rfl ?_ .nil)))
                                      · skip
                                        refine gs_pure (enters kcall66 (.cons rfl .nil)) (reach_spec a) rfl rfl rfl (fun _ _ => trivial) ?_
                                        refine gx_env (F := [(0, _), (1, _), (2, _), (3, _), (4, _), (5, _), (6, _), (7, _), (8, _), (9, _), (16, _), (17, _), (18, _), (19, _), (20, _), (21, _), (22, _), (23, _)]) (.cons rfl (.cons rfl (.cons rfl (.cons rfl (.cons rfl (.cons rfl (.cons rfl (.cons rfl (.cons rfl (.cons rfl (.cons rfl (.cons rfl (.cons rfl (.cons rfl (.cons rfl (.cons rfl (.cons rfl (.cons rfl .nil)))))))))))))))))) (gx_perm (by first | exact .refl _ | (repeat (first | exact .refl _ | refine perm_take (by first | exact .head | exact .tail .head | exact .tail (.tail .head) | exact .tail (.tail (.tail .head)) | exact .tail (.tail (.tail (.tail .head))) | exact .tail (.tail (.tail (.tail (.tail .head))))) ?_))) (hD9 b9 True.intro))
                                      · skip
                                        refine gs_val (val_loadA kag22 rfl (sees_mem (by repeat (first | exact .head _ | refine .tail _ ?_ | refine List.mem_append_right _ ?_))) rfl rfl) rfl rfl rfl ?_
                                        refine gx_env (F := [(0, _), (1, _), (2, _), (3, _), (4, _), (5, _), (6, _), (7, _), (8, _), (9, _), (16, _), (17, _), (18, _), (19, _), (20, _), (21, _), (22, _), (24, _)]) (.cons rfl (.cons rfl (.cons rfl (.cons rfl (.cons rfl (.cons rfl (.cons rfl (.cons rfl (.cons rfl (.cons rfl (.cons rfl (.cons rfl (.cons rfl (.cons rfl (.cons rfl (.cons rfl (.cons rfl (.cons rfl .nil)))))))))))))))))) (gx_perm (by first | exact .refl _ | (repeat (first | exact .refl _ | refine perm_take (by first | exact .head | exact .tail .head | exact .tail (.tail .head) | exact .tail (.tail (.tail .head)) | exact .tail (.tail (.tail (.tail .head))) | exact .tail (.tail (.tail (.tail (.tail .head))))) ?_))) (hD11 b9 True.intro))
                                      · skip
                                        refine gs_alloc kze66 rfl rfl rfl (fun b10 => ?_)
                                        refine gx_env (F := [(0, _), (1, _), (2, _), (3, _), (4, _), (5, _), (6, _), (7, _), (8, _), (9, _), (10, _), (16, _), (17, _), (18, _), (19, _), (20, _), (21, _), (22, _)]) (.cons rfl (.cons rfl (.cons rfl (.cons rfl (.cons rfl (.cons rfl (.cons rfl (.cons rfl (.cons rfl (.cons rfl (.cons rfl (.cons rfl (.cons rfl (.cons rfl (.cons rfl (.cons rfl (.cons rfl (.cons rfl .nil)))))))))))))))))) (gx_perm (by first | exact .refl _ | (repeat (first | exact .refl _ | refine perm_take (by first | exact .head | exact .tail .head | exact .tail (.tail .head) | exact .tail (.tail (.tail .head)) | exact .tail (.tail (.tail (.tail .head))) | exact .tail (.tail (.tail (.tail (.tail .head))))) ?_))) (hD13 b9 b10 True.intro))
                                  · rintro  _
                                    refine ga_branch (rs := [1, 4, 5]) (by kernel_rfl) rfl (.cons (ls' := [true, true, true, false, false, false, false, false]) rfl rfl ?_ (.cons (ls' := [true, false, true, false, true, false, false, false]) rfl rfl ?_ (.cons (ls' := [true, false, true, false, false, true, false, false]) rfl rfl ?_ .nil)))
                                    · skip
                                      refine gs_pure (enters kcall66 (.cons rfl .nil)) (reach_spec a) rfl rfl rfl (fun _ _ => trivial) ?_
                                      refine gx_env (F := [(0, _), (1, _), (2, _), (3, _), (4, _), (5, _), (6, _), (7, _), (8, _), (16, _), (17, _), (18, _), (19, _), (20, _), (21, _), (22, _), (23, _), (24, _)]) (.cons rfl (.cons rfl (.cons rfl (.cons rfl (.cons rfl (.cons rfl (.cons rfl (.cons rfl (.cons rfl (.cons rfl (.cons rfl (.cons rfl (.cons rfl (.cons rfl (.cons rfl (.cons rfl (.cons rfl (.cons rfl .nil)))))))))))))))))) (gx_perm (by first | exact .refl _ | (repeat (first | exact .refl _ | refine perm_take (by first | exact .head | exact .tail .head | exact .tail (.tail .head) | exact .tail (.tail (.tail .head)) | exact .tail (.tail (.tail (.tail .head))) | exact .tail (.tail (.tail (.tail (.tail .head))))) ?_))) (hD8  True.intro))
                                    · skip
                                      refine gs_alloc kze66 rfl rfl rfl (fun b9 => ?_)
                                      refine gx_env (F := [(0, _), (1, _), (2, _), (3, _), (4, _), (5, _), (6, _), (7, _), (8, _), (9, _), (16, _), (17, _), (18, _), (19, _), (20, _), (21, _), (22, _), (24, _)]) (.cons rfl (.cons rfl (.cons rfl (.cons rfl (.cons rfl (.cons rfl (.cons rfl (.cons rfl (.cons rfl (.cons rfl (.cons rfl (.cons rfl (.cons rfl (.cons rfl (.cons rfl (.cons rfl (.cons rfl (.cons rfl .nil)))))))))))))))))) (gx_perm (by first | exact .refl _ | (repeat (first | exact .refl _ | refine perm_take (by first | exact .head | exact .tail .head | exact .tail (.tail .head) | exact .tail (.tail (.tail .head)) | exact .tail (.tail (.tail (.tail .head))) | exact .tail (.tail (.tail (.tail (.tail .head))))) ?_))) (hD11 b9 True.intro))
                                    · skip
                                      refine gs_alloc kze66 rfl rfl rfl (fun b10 => ?_)
                                      refine gx_env (F := [(0, _), (1, _), (2, _), (3, _), (4, _), (5, _), (6, _), (7, _), (8, _), (10, _), (16, _), (17, _), (18, _), (19, _), (20, _), (21, _), (22, _), (24, _)]) (.cons rfl (.cons rfl (.cons rfl (.cons rfl (.cons rfl (.cons rfl (.cons rfl (.cons rfl (.cons rfl (.cons rfl (.cons rfl (.cons rfl (.cons rfl (.cons rfl (.cons rfl (.cons rfl (.cons rfl (.cons rfl .nil)))))))))))))))))) (gx_perm (by first | exact .refl _ | (repeat (first | exact .refl _ | refine perm_take (by first | exact .head | exact .tail .head | exact .tail (.tail .head) | exact .tail (.tail (.tail .head)) | exact .tail (.tail (.tail (.tail .head))) | exact .tail (.tail (.tail (.tail (.tail .head))))) ?_))) (hD12 b10 True.intro))
                                · rintro b9 b10 _
                                  refine ga_branch (rs := [0]) (by kernel_rfl) rfl (.cons (ls' := [true, false, true, false, true, true, false, false]) rfl rfl ?_ .nil)
                                  refine gs_val (val_loadA kag22 rfl (sees_mem (by repeat (first | exact .head _ | refine .tail _ ?_ | refine List.mem_append_right _ ?_))) rfl rfl) rfl rfl rfl ?_
                                  refine gx_env (F := [(0, _), (1, _), (2, _), (3, _), (4, _), (5, _), (6, _), (7, _), (8, _), (9, _), (10, _), (16, _), (17, _), (18, _), (19, _), (20, _), (21, _), (22, _), (24, _)]) (.cons rfl (.cons rfl (.cons rfl (.cons rfl (.cons rfl (.cons rfl (.cons rfl (.cons rfl (.cons rfl (.cons rfl (.cons rfl (.cons rfl (.cons rfl (.cons rfl (.cons rfl (.cons rfl (.cons rfl (.cons rfl (.cons rfl .nil))))))))))))))))))) (gx_perm (by first | exact .refl _ | (repeat (first | exact .refl _ | refine perm_take (by first | exact .head | exact .tail .head | exact .tail (.tail .head) | exact .tail (.tail (.tail .head)) | exact .tail (.tail (.tail (.tail .head))) | exact .tail (.tail (.tail (.tail (.tail .head))))) ?_))) (hD7 b9 b10 True.intro))
                              · rintro b9 b10 _
                                refine ga_branch (rs := [1, 2]) (by kernel_rfl) rfl (.cons (ls' := [true, true, false, false, true, true, false, false]) rfl rfl ?_ (.cons (ls' := [true, false, true, false, true, true, false, false]) rfl rfl ?_ .nil))
                                · skip
                                  refine gs_pure (enters kcall66 (.cons rfl .nil)) (reach_spec a) rfl rfl rfl (fun _ _ => trivial) ?_
                                  refine gx_env (F := [(0, _), (1, _), (2, _), (3, _), (4, _), (5, _), (6, _), (7, _), (8, _), (9, _), (10, _), (16, _), (17, _), (18, _), (19, _), (20, _), (21, _), (22, _), (23, _)]) (.cons rfl (.cons rfl (.cons rfl (.cons rfl (.cons rfl (.cons rfl (.cons rfl (.cons rfl (.cons rfl (.cons rfl (.cons rfl (.cons rfl (.cons rfl (.cons rfl (.cons rfl (.cons rfl (.cons rfl (.cons rfl (.cons rfl .nil))))))))))))))))))) (gx_perm (by first | exact .refl _ | (repeat (first | exact .refl _ | refine perm_take (by first | exact .head | exact .tail .head | exact .tail (.tail .head) | exact .tail (.tail (.tail .head)) | exact .tail (.tail (.tail (.tail .head))) | exact .tail (.tail (.tail (.tail (.tail .head))))) ?_))) (hD6 b9 b10 True.intro))
                                · skip
                                  refine gs_val (val_loadA kag22 rfl (sees_mem (by repeat (first | exact .head _ | refine .tail _ ?_ | refine List.mem_append_right _ ?_))) rfl rfl) rfl rfl rfl ?_
                                  refine gx_env (F := [(0, _), (1, _), (2, _), (3, _), (4, _), (5, _), (6, _), (7, _), (8, _), (9, _), (10, _), (16, _), (17, _), (18, _), (19, _), (20, _), (21, _), (22, _), (24, _)]) (.cons rfl (.cons rfl (.cons rfl (.cons rfl (.cons rfl (.cons rfl (.cons rfl (.cons rfl (.cons rfl (.cons rfl (.cons rfl (.cons rfl (.cons rfl (.cons rfl (.cons rfl (.cons rfl (.cons rfl (.cons rfl (.cons rfl .nil))))))))))))))))))) (gx_perm (by first | exact .refl _ | (repeat (first | exact .refl _ | refine perm_take (by first | exact .head | exact .tail .head | exact .tail (.tail .head) | exact .tail (.tail (.tail .head)) | exact .tail (.tail (.tail (.tail .head))) | exact .tail (.tail (.tail (.tail (.tail .head))))) ?_))) (hD7 b9 b10 True.intro))
                            · rintro b10 _
                              refine ga_branch (rs := [1, 4]) (by kernel_rfl) rfl (.cons (ls' := [true, true, true, false, false, true, false, false]) rfl rfl ?_ (.cons (ls' := [true, false, true, false, true, true, false, false]) rfl rfl ?_ .nil))
                              · skip
                                refine gs_pure (enters kcall66 (.cons rfl .nil)) (reach_spec a) rfl rfl rfl (fun _ _ => trivial) ?_
                                refine gx_env (F := [(0, _), (1, _), (2, _), (3, _), (4, _), (5, _), (6, _), (7, _), (8, _), (10, _), (16, _), (17, _), (18, _), (19, _), (20, _), (21, _), (22, _), (23, _), (24, _)]) (.cons rfl (.cons rfl (.cons rfl (.cons rfl (.cons rfl (.cons rfl (.cons rfl (.cons rfl (.cons rfl (.cons rfl (.cons rfl (.cons rfl (.cons rfl (.cons rfl (.cons rfl (.cons rfl (.cons rfl (.cons rfl (.cons rfl .nil))))))))))))))))))) (gx_perm (by first | exact .refl _ | (repeat (first | exact .refl _ | refine perm_take (by first | exact .head | exact .tail .head | exact .tail (.tail .head) | exact .tail (.tail (.tail .head)) | exact .tail (.tail (.tail (.tail .head))) | exact .tail (.tail (.tail (.tail (.tail .head))))) ?_))) (hD5 b10 True.intro))
                              · skip
                                refine gs_alloc kze66 rfl rfl rfl (fun b9 => ?_)
                                refine gx_env (F := [(0, _), (1, _), (2, _), (3, _), (4, _), (5, _), (6, _), (7, _), (8, _), (9, _), (10, _), (16, _), (17, _), (18, _), (19, _), (20, _), (21, _), (22, _), (24, _)]) (.cons rfl (.cons rfl (.cons rfl (.cons rfl (.cons rfl (.cons rfl (.cons rfl (.cons rfl (.cons rfl (.cons rfl (.cons rfl (.cons rfl (.cons rfl (.cons rfl (.cons rfl (.cons rfl (.cons rfl (.cons rfl (.cons rfl .nil))))))))))))))))))) (gx_perm (by first | exact .refl _ | (repeat (first | exact .refl _ | refine perm_take (by first | exact .head | exact .tail .head | exact .tail (.tail .head) | exact .tail (.tail (.tail .head)) | exact .tail (.tail (.tail (.tail .head))) | exact .tail (.tail (.tail (.tail (.tail .head))))) ?_))) (hD7 b9 b10 True.intro))
                          · rintro b9 _
                            refine ga_branch (rs := [1, 5]) (by kernel_rfl) rfl (.cons (ls' := [true, true, true, false, true, false, false, false]) rfl rfl ?_ (.cons (ls' := [true, false, true, false, true, true, false, false]) rfl rfl ?_ .nil))
                            · skip
                              refine gs_pure (enters kcall66 (.cons rfl .nil)) (reach_spec a) rfl rfl rfl (fun _ _ => trivial) ?_
                              refine gx_env (F := [(0, _), (1, _), (2, _), (3, _), (4, _), (5, _), (6, _), (7, _), (8, _), (9, _), (16, _), (17, _), (18, _), (19, _), (20, _), (21, _), (22, _), (23, _), (24, _)]) (.cons rfl (.cons rfl (.cons rfl (.cons rfl (.cons rfl (.cons rfl (.cons rfl (.cons rfl (.cons rfl (.cons rfl (.cons rfl (.cons rfl (.cons rfl (.cons rfl (.cons rfl (.cons rfl (.cons rfl (.cons rfl (.cons rfl .nil))))))))))))))))))) (gx_perm (by first | exact .refl _ | (repeat (first | exact .refl _ | refine perm_take (by first | exact .head | exact .tail .head | exact .tail (.tail .head) | exact .tail (.tail (.tail .head)) | exact .tail (.tail (.tail (.tail .head))) | exact .tail (.tail (.tail (.tail (.tail .head))))) ?_))) (hD4 b9 True.intro))
                            · skip
                              refine gs_alloc kze66 rfl rfl rfl (fun b10 => ?_)
                              refine gx_env (F := [(0, _), (1, _), (2, _), (3, _), (4, _), (5, _), (6, _), (7, _), (8, _), (9, _), (10, _), (16, _), (17, _), (18, _), (19, _), (20, _), (21, _), (22, _), (24, _)]) (.cons rfl (.cons rfl (.cons rfl (.cons rfl (.cons rfl (.cons rfl (.cons rfl (.cons rfl (.cons rfl (.cons rfl (.cons rfl (.cons rfl (.cons rfl (.cons rfl (.cons rfl (.cons rfl (.cons rfl (.cons rfl (.cons rfl .nil))))))))))))))))))) (gx_perm (by first | exact .refl _ | (repeat (first | exact .refl _ | refine perm_take (by first | exact .head | exact .tail .head | exact .tail (.tail .head) | exact .tail (.tail (.tail .head)) | exact .tail (.tail (.tail (.tail .head))) | exact .tail (.tail (.tail (.tail (.tail .head))))) ?_))) (hD7 b9 b10 True.intro))
                        · rintro b10 _
                          refine ga_branch (rs := [2, 4]) (by kernel_rfl) rfl (.cons (ls' := [true, true, true, false, false, true, false, false]) rfl rfl ?_ (.cons (ls' := [true, true, false, false, true, true, false, false]) rfl rfl ?_ .nil))
                          · skip
                            refine gs_val (val_loadA kag22 rfl (sees_mem (by repeat (first | exact .head _ | refine .tail _ ?_ | refine List.mem_append_right _ ?_))) rfl rfl) rfl rfl rfl ?_
                            refine gx_env (F := [(0, _), (1, _), (2, _), (3, _), (4, _), (5, _), (6, _), (7, _), (8, _), (10, _), (16, _), (17, _), (18, _), (19, _), (20, _), (21, _), (22, _), (23, _), (24, _)]) (.cons rfl (.cons rfl (.cons rfl (.cons rfl (.cons rfl (.cons rfl (.cons rfl (.cons rfl (.cons rfl (.cons rfl (.cons rfl (.cons rfl (.cons rfl (.cons rfl (.cons rfl (.cons rfl (.cons rfl (.cons rfl (.cons rfl .nil))))))))))))))))))) (gx_perm (by first | exact .refl _ | (repeat (first | exact .refl _ | refine perm_take (by first | exact .head | exact .tail .head | exact .tail (.tail .head) | exact .tail (.tail (.tail .head)) | exact .tail (.tail (.tail (.tail .head))) | exact .tail (.tail (.tail (.tail (.tail .head))))) ?_))) (hD5 b10 True.intro))
                          · skip
                            refine gs_alloc kze66 rfl rfl rfl (fun b9 => ?_)
                            refine gx_env (F := [(0, _), (1, _), (2, _), (3, _), (4, _), (5, _), (6, _), (7, _), (8, _), (9, _), (10, _), (16, _), (17, _), (18, _), (19, _), (20, _), (21, _), (22, _), (23, _)]) (.cons rfl (.cons rfl (.cons rfl (.cons rfl (.cons rfl (.cons rfl (.cons rfl (.cons rfl (.cons rfl (.cons rfl (.cons rfl (.cons rfl (.cons rfl (.cons rfl (.cons rfl (.cons rfl (.cons rfl (.cons rfl (.cons rfl .nil))))))))))))))))))) (gx_perm (by first | exact .refl _ | (repeat (first | exact .refl _ | refine perm_take (by first | exact .head | exact .tail .head | exact .tail (.tail .head) | exact .tail (.tail (.tail .head)) | exact .tail (.tail (.tail (.tail .head))) | exact .tail (.tail (.tail (.tail (.tail .head))))) ?_))) (hD6 b9 b10 True.intro))
                      · rintro b9 _
                        refine ga_branch (rs := [2, 5]) (by kernel_rfl) rfl (.cons (ls' := [true, true, true, false, true, false, false, false]) rfl rfl ?_ (.cons (ls' := [true, true, false, false, true, true, false, false]) rfl rfl ?_ .nil))
                        · skip
                          refine gs_val (val_loadA kag22 rfl (sees_mem (by repeat (first | exact .head _ | refine .tail _ ?_ | refine List.mem_append_right _ ?_))) rfl rfl) rfl rfl rfl ?_
                          refine gx_env (F := [(0, _), (1, _), (2, _), (3, _), (4, _), (5, _), (6, _), (7, _), (8, _), (9, _), (16, _), (17, _), (18, _), (19, _), (20, _), (21, _), (22, _), (23, _), (24, _)]) (.cons rfl (.cons rfl (.cons rfl (.cons rfl (.cons rfl (.cons rfl (.cons rfl (.cons rfl (.cons rfl (.cons rfl (.cons rfl (.cons rfl (.cons rfl (.cons rfl (.cons rfl (.cons rfl (.cons rfl (.cons rfl (.cons rfl .nil))))))))))))))))))) (gx_perm (by first | exact .refl _ | (repeat (first | exact .refl _ | refine perm_take (by first | exact .head | exact .tail .head | exact .tail (.tail .head) | exact .tail (.tail (.tail .head)) | exact .tail (.tail (.tail (.tail .head))) | exact .tail (.tail (.tail (.tail (.tail .head))))) ?_))) (hD4 b9 True.intro))
                        · skip
                          refine gs_alloc kze66 rfl rfl rfl (fun b10 => ?_)
                          refine gx_env (F := [(0, _), (1, _), (2, _), (3, _), (4, _), (5, _), (6, _), (7, _), (8, _), (9, _), (10, _), (16, _), (17, _), (18, _), (19, _), (20, _), (21, _), (22, _), (23, _)]) (.cons rfl (.cons rfl (.cons rfl (.cons rfl (.cons rfl (.cons rfl (.cons rfl (.cons rfl (.cons rfl (.cons rfl (.cons rfl (.cons rfl (.cons rfl (.cons rfl (.cons rfl (.cons rfl (.cons rfl (.cons rfl (.cons rfl .nil))))))))))))))))))) (gx_perm (by first | exact .refl _ | (repeat (first | exact .refl _ | refine perm_take (by first | exact .head | exact .tail .head | exact .tail (.tail .head) | exact .tail (.tail (.tail .head)) | exact .tail (.tail (.tail (.tail .head))) | exact .tail (.tail (.tail (.tail (.tail .head))))) ?_))) (hD6 b9 b10 True.intro))
                    · rintro  _
                      refine ga_branch (rs := [3, 4, 5]) (by kernel_rfl) rfl (.cons (ls' := [true, true, true, true, false, false, false, false]) rfl rfl ?_ (.cons (ls' := [true, true, true, false, true, false, false, false]) rfl rfl ?_ (.cons (ls' := [true, true, true, false, false, true, false, false]) rfl rfl ?_ .nil)))
                      · skip
                        refine gs_pure (enters kcall66 (.cons rfl .nil)) (reach_spec b) rfl rfl rfl (fun _ _ => trivial) ?_
                        refine ga_branch (rs := [4, 5]) (by kernel_rfl) rfl (.cons (ls' := [true, true, true, true, true, false, false, false]) rfl rfl ?_ (.cons (ls' := [true, true, true, true, false, true, false, false]) rfl rfl ?_ .nil))
                        · skip
                          refine gs_alloc kze66 rfl rfl rfl (fun b9 => ?_)
                          refine gx_env (F := [(0, _), (1, _), (2, _), (3, _), (4, _), (5, _), (6, _), (7, _), (8, _), (9, _), (16, _), (17, _), (18, _), (19, _), (20, _), (21, _), (22, _), (23, _), (24, _), (25, _)]) (.cons rfl (.cons rfl (.cons rfl (.cons rfl (.cons rfl (.cons rfl (.cons rfl (.cons rfl (.cons rfl (.cons rfl (.cons rfl (.cons rfl (.cons rfl (.cons rfl (.cons rfl (.cons rfl (.cons rfl (.cons rfl (.cons rfl (.cons rfl .nil)))))))))))))))))))) (gx_perm (by first | exact .refl _ | (repeat (first | exact .refl _ | refine perm_take (by first | exact .head | exact .tail .head | exact .tail (.tail .head) | exact .tail (.tail (.tail .head)) | exact .tail (.tail (.tail (.tail .head))) | exact .tail (.tail (.tail (.tail (.tail .head))))) ?_))) (hD1 b9 True.intro))
                        · skip
                          refine gs_alloc kze66 rfl rfl rfl (fun b10 => ?_)
                          refine gx_env (F := [(0, _), (1, _), (2, _), (3, _), (4, _), (5, _), (6, _), (7, _), (8, _), (10, _), (16, _), (17, _), (18, _), (19, _), (20, _), (21, _), (22, _), (23, _), (24, _), (25, _)]) (.cons rfl (.cons rfl (.cons rfl (.cons rfl (.cons rfl (.cons rfl (.cons rfl (.cons rfl (.cons rfl (.cons rfl (.cons rfl (.cons rfl (.cons rfl (.cons rfl (.cons rfl (.cons rfl (.cons rfl (.cons rfl (.cons rfl (.cons rfl .nil)))))))))))))))))))) (gx_perm (by first | exact .refl _ | (repeat (first | exact .refl _ | refine perm_take (by first | exact .head | exact .tail .head | exact .tail (.tail .head) | exact .tail (.tail (.tail .head)) | exact .tail (.tail (.tail (.tail .head))) | exact .tail (.tail (.tail (.tail (.tail .head))))) ?_))) (hD2 b10 True.intro))
                      · skip
                        refine gs_alloc kze66 rfl rfl rfl (fun b9 => ?_)
                        refine gx_env (F := [(0, _), (1, _), (2, _), (3, _), (4, _), (5, _), (6, _), (7, _), (8, _), (9, _), (16, _), (17, _), (18, _), (19, _), (20, _), (21, _), (22, _), (23, _), (24, _)]) (.cons rfl (.cons rfl (.cons rfl (.cons rfl (.cons rfl (.cons rfl (.cons rfl (.cons rfl (.cons rfl (.cons rfl (.cons rfl (.cons rfl (.cons rfl (.cons rfl (.cons rfl (.cons rfl (.cons rfl (.cons rfl (.cons rfl .nil))))))))))))))))))) (gx_perm (by first | exact .refl _ | (repeat (first | exact .refl _ | refine perm_take (by first | exact .head | exact .tail .head | exact .tail (.tail .head) | exact .tail (.tail (.tail .head)) | exact .tail (.tail (.tail (.tail .head))) | exact .tail (.tail (.tail (.tail (.tail .head))))) ?_))) (hD4 b9 True.intro))
                      · skip
                        refine gs_alloc kze66 rfl rfl rfl (fun b10 => ?_)
                        refine gx_env (F := [(0, _), (1, _), (2, _), (3, _), (4, _), (5, _), (6, _), (7, _), (8, _), (10, _), (16, _), (17, _), (18, _), (19, _), (20, _), (21, _), (22, _), (23, _), (24, _)]) (.cons rfl (.cons rfl (.cons rfl (.cons rfl (.cons rfl (.cons rfl (.cons rfl (.cons rfl (.cons rfl (.cons rfl (.cons rfl (.cons rfl (.cons rfl (.cons rfl (.cons rfl (.cons rfl (.cons rfl (.cons rfl (.cons rfl .nil))))))))))))))))))) (gx_perm (by first | exact .refl _ | (repeat (first | exact .refl _ | refine perm_take (by first | exact .head | exact .tail .head | exact .tail (.tail .head) | exact .tail (.tail (.tail .head)) | exact .tail (.tail (.tail (.tail .head))) | exact .tail (.tail (.tail (.tail (.tail .head))))) ?_))) (hD5 b10 True.intro))
                  · rintro b9 b10 _
                    refine ga_branch (rs := [1]) (by kernel_rfl) rfl (.cons (ls' := [true, true, true, false, true, true, false, false]) rfl rfl ?_ .nil)
                    refine gs_pure (enters kcall66 (.cons rfl .nil)) (reach_spec a) rfl rfl rfl (fun _ _ => trivial) ?_
                    refine gx_env (F := [(0, _), (1, _), (2, _), (3, _), (4, _), (5, _), (6, _), (7, _), (8, _), (9, _), (10, _), (16, _), (17, _), (18, _), (19, _), (20, _), (21, _), (22, _), (23, _), (24, _)]) (.cons rfl (.cons rfl (.cons rfl (.cons rfl (.cons rfl (.cons rfl (.cons rfl (.cons rfl (.cons rfl (.cons rfl (.cons rfl (.cons rfl (.cons rfl (.cons rfl (.cons rfl (.cons rfl (.cons rfl (.cons rfl (.cons rfl (.cons rfl .nil)))))))))))))))))))) (gx_perm (by first | exact .refl _ | (repeat (first | exact .refl _ | refine perm_take (by first | exact .head | exact .tail .head | exact .tail (.tail .head) | exact .tail (.tail (.tail .head)) | exact .tail (.tail (.tail (.tail .head))) | exact .tail (.tail (.tail (.tail (.tail .head))))) ?_))) (hD3 b9 b10 True.intro))
                · rintro b9 b10 _
                  refine ga_branch (rs := [2]) (by kernel_rfl) rfl (.cons (ls' := [true, true, true, false, true, true, false, false]) rfl rfl ?_ .nil)
                  refine gs_val (val_loadA kag22 rfl (sees_mem (by repeat (first | exact .head _ | refine .tail _ ?_ | refine List.mem_append_right _ ?_))) rfl rfl) rfl rfl rfl ?_
                  refine gx_env (F := [(0, _), (1, _), (2, _), (3, _), (4, _), (5, _), (6, _), (7, _), (8, _), (9, _), (10, _), (16, _), (17, _), (18, _), (19, _), (20, _), (21, _), (22, _), (23, _), (24, _)]) (.cons rfl (.cons rfl (.cons rfl (.cons rfl (.cons rfl (.cons rfl (.cons rfl (.cons rfl (.cons rfl (.cons rfl (.cons rfl (.cons rfl (.cons rfl (.cons rfl (.cons rfl (.cons rfl (.cons rfl (.cons rfl (.cons rfl (.cons rfl .nil)))))))))))))))))))) (gx_perm (by first | exact .refl _ | (repeat (first | exact .refl _ | refine perm_take (by first | exact .head | exact .tail .head | exact .tail (.tail .head) | exact .tail (.tail (.tail .head)) | exact .tail (.tail (.tail (.tail .head))) | exact .tail (.tail (.tail (.tail (.tail .head))))) ?_))) (hD3 b9 b10 True.intro))
              · rintro b10 _
                refine ga_branch (rs := [3, 4]) (by kernel_rfl) rfl (.cons (ls' := [true, true, true, true, false, true, false, false]) rfl rfl ?_ (.cons (ls' := [true, true, true, false, true, true, false, false]) rfl rfl ?_ .nil))
                · skip
                  refine gs_pure (enters kcall66 (.cons rfl .nil)) (reach_spec b) rfl rfl rfl (fun _ _ => trivial) ?_
                  refine gx_env (F := [(0, _), (1, _), (2, _), (3, _), (4, _), (5, _), (6, _), (7, _), (8, _), (10, _), (16, _), (17, _), (18, _), (19, _), (20, _), (21, _), (22, _), (23, _), (24, _), (25, _)]) (.cons rfl (.cons rfl (.cons rfl (.cons rfl (.cons rfl (.cons rfl (.cons rfl (.cons rfl (.cons rfl (.cons rfl (.cons rfl (.cons rfl (.cons rfl (.cons rfl (.cons rfl (.cons rfl (.cons rfl (.cons rfl (.cons rfl (.cons rfl .nil)))))))))))))))))))) (gx_perm (by first | exact .refl _ | (repeat (first | exact .refl _ | refine perm_take (by first | exact .head | exact .tail .head | exact .tail (.tail .head) | exact .tail (.tail (.tail .head)) | exact .tail (.tail (.tail (.tail .head))) | exact .tail (.tail (.tail (.tail (.tail .head))))) ?_))) (hD2 b10 True.intro))
                · skip
                  refine gs_alloc kze66 rfl rfl rfl (fun b9 => ?_)
                  refine gx_env (F := [(0, _), (1, _), (2, _), (3, _), (4, _), (5, _), (6, _), (7, _), (8, _), (9, _), (10, _), (16, _), (17, _), (18, _), (19, _), (20, _), (21, _), (22, _), (23, _), (24, _)]) (.cons rfl (.cons rfl (.cons rfl (.cons rfl (.cons rfl (.cons rfl (.cons rfl (.cons rfl (.cons rfl (.cons rfl (.cons rfl (.cons rfl (.cons rfl (.cons rfl (.cons rfl (.cons rfl (.cons rfl (.cons rfl (.cons rfl (.cons rfl .nil)))))))))))))))))))) (gx_perm (by first | exact .refl _ | (repeat (first | exact .refl _ | refine perm_take (by first | exact .head | exact .tail .head | exact .tail (.tail .head) | exact .tail (.tail (.tail .head)) | exact .tail (.tail (.tail (.tail .head))) | exact .tail (.tail (.tail (.tail (.tail .head))))) ?_))) (hD3 b9 b10 True.intro))
            · rintro b9 _
              refine ga_branch (rs := [3, 5]) (by kernel_rfl) rfl (.cons (ls' := [true, true, true, true, true, false, false, false]) rfl rfl ?_ (.cons (ls' := [true, true, true, false, true, true, false, false]) rfl rfl ?_ .nil))
              · skip
                refine gs_pure (enters kcall66 (.cons rfl .nil)) (reach_spec b) rfl rfl rfl (fun _ _ => trivial) ?_
                refine gx_env (F := [(0, _), (1, _), (2, _), (3, _), (4, _), (5, _), (6, _), (7, _), (8, _), (9, _), (16, _), (17, _), (18, _), (19, _), (20, _), (21, _), (22, _), (23, _), (24, _), (25, _)]) (.cons rfl (.cons rfl (.cons rfl (.cons rfl (.cons rfl (.cons rfl (.cons rfl (.cons rfl (.cons rfl (.cons rfl (.cons rfl (.cons rfl (.cons rfl (.cons rfl (.cons rfl (.cons rfl (.cons rfl (.cons rfl (.cons rfl (.cons rfl .nil)))))))))))))))))))) (gx_perm (by first | exact .refl _ | (repeat (first | exact .refl _ | refine perm_take (by first | exact .head | exact .tail .head | exact .tail (.tail .head) | exact .tail (.tail (.tail .head)) | exact .tail (.tail (.tail (.tail .head))) | exact .tail (.tail (.tail (.tail (.tail .head))))) ?_))) (hD1 b9 True.intro))
              · skip
                refine gs_alloc kze66 rfl rfl rfl (fun b10 => ?_)
                refine gx_env (F := [(0, _), (1, _), (2, _), (3, _), (4, _), (5, _), (6, _), (7, _), (8, _), (9, _), (10, _), (16, _), (17, _), (18, _), (19, _), (20, _), (21, _), (22, _), (23, _), (24, _)]) (.cons rfl (.cons rfl (.cons rfl (.cons rfl (.cons rfl (.cons rfl (.cons rfl (.cons rfl (.cons rfl (.cons rfl (.cons rfl (.cons rfl (.cons rfl (.cons rfl (.cons rfl (.cons rfl (.cons rfl (.cons rfl (.cons rfl (.cons rfl .nil)))))))))))))))))))) (gx_perm (by first | exact .refl _ | (repeat (first | exact .refl _ | refine perm_take (by first | exact .head | exact .tail .head | exact .tail (.tail .head) | exact .tail (.tail (.tail .head)) | exact .tail (.tail (.tail (.tail .head))) | exact .tail (.tail (.tail (.tail (.tail .head))))) ?_))) (hD3 b9 b10 True.intro))
          · rintro b9 b10 _
            refine ga_branch (rs := [3]) (by kernel_rfl) rfl (.cons (ls' := [true, true, true, true, true, true, false, false]) rfl rfl ?_ .nil)
            refine gs_pure (enters kcall66 (.cons rfl .nil)) (reach_spec b) rfl rfl rfl (fun _ _ => trivial) ?_
            refine gx_env (F := [(0, _), (1, _), (2, _), (3, _), (4, _), (5, _), (6, _), (7, _), (8, _), (9, _), (10, _), (16, _), (17, _), (18, _), (19, _), (20, _), (21, _), (22, _), (23, _), (24, _), (25, _)]) (.cons rfl (.cons rfl (.cons rfl (.cons rfl (.cons rfl (.cons rfl (.cons rfl (.cons rfl (.cons rfl (.cons rfl (.cons rfl (.cons rfl (.cons rfl (.cons rfl (.cons rfl (.cons rfl (.cons rfl (.cons rfl (.cons rfl (.cons rfl (.cons rfl .nil))))))))))))))))))))) (gx_perm (by first | exact .refl _ | (repeat (first | exact .refl _ | refine perm_take (by first | exact .head | exact .tail .head | exact .tail (.tail .head) | exact .tail (.tail (.tail .head)) | exact .tail (.tail (.tail (.tail .head))) | exact .tail (.tail (.tail (.tail (.tail .head))))) ?_))) (hD0 b9 b10 True.intro))
        · rintro b10 _
          refine ga_branch (rs := [4]) (by kernel_rfl) rfl (.cons (ls' := [true, true, true, true, true, true, false, false]) rfl rfl ?_ .nil)
          refine gs_alloc kze66 rfl rfl rfl (fun b9 => ?_)
          refine gx_env (F := [(0, _), (1, _), (2, _), (3, _), (4, _), (5, _), (6, _), (7, _), (8, _), (9, _), (10, _), (16, _), (17, _), (18, _), (19, _), (20, _), (21, _), (22, _), (23, _), (24, _), (25, _)]) (.cons rfl (.cons rfl (.cons rfl (.cons rfl (.cons rfl (.cons rfl (.cons rfl (.cons rfl (.cons rfl (.cons rfl (.cons rfl (.cons rfl (.cons rfl (.cons rfl (.cons rfl (.cons rfl (.cons rfl (.cons rfl (.cons rfl (.cons rfl (.cons rfl .nil))))))))))))))))))))) (gx_perm (by first | exact .refl _ | (repeat (first | exact .refl _ | refine perm_take (by first | exact .head | exact .tail .head | exact .tail (.tail .head) | exact .tail (.tail (.tail .head)) | exact .tail (.tail (.tail (.tail .head))) | exact .tail (.tail (.tail (.tail (.tail .head))))) ?_))) (hD0 b9 b10 True.intro))
      · rintro b9 _
        refine ga_branch (rs := [5]) (by kernel_rfl) rfl (.cons (ls' := [true, true, true, true, true, true, false, false]) rfl rfl ?_ .nil)
        refine gs_alloc kze66 rfl rfl rfl (fun b10 => ?_)
        refine gx_env (F := [(0, _), (1, _), (2, _), (3, _), (4, _), (5, _), (6, _), (7, _), (8, _), (9, _), (10, _), (16, _), (17, _), (18, _), (19, _), (20, _), (21, _), (22, _), (23, _), (24, _), (25, _)]) (.cons rfl (.cons rfl (.cons rfl (.cons rfl (.cons rfl (.cons rfl (.cons rfl (.cons rfl (.cons rfl (.cons rfl (.cons rfl (.cons rfl (.cons rfl (.cons rfl (.cons rfl (.cons rfl (.cons rfl (.cons rfl (.cons rfl (.cons rfl (.cons rfl .nil))))))))))))))))))))) (gx_perm (by first | exact .refl _ | (repeat (first | exact .refl _ | refine perm_take (by first | exact .head | exact .tail .head | exact .tail (.tail .head) | exact .tail (.tail (.tail .head)) | exact .tail (.tail (.tail (.tail .head))) | exact .tail (.tail (.tail (.tail (.tail .head))))) ?_))) (hD0 b9 b10 True.intro))
    · rintro b9 b10 _
      refine ga_branch (rs := [6]) (by kernel_rfl) rfl (.cons (ls' := [true, true, true, true, true, true, true, false]) rfl rfl ?_ .nil)
      refine gs_store ksz66 rfl rfl rfl rfl rfl rfl (by first | exact .head | exact .tail .head | exact .tail (.tail .head) | exact .tail (.tail (.tail .head)) | exact .tail (.tail (.tail (.tail .head))) | exact .tail (.tail (.tail (.tail (.tail .head))))) (by simp) (by first | ((with_reducible refine splice_all _ _ ?_); simp; done) | (simp only [splice, stL, digL, List.take_succ_cons, List.take_zero, List.drop_succ_cons, List.drop_zero, List.length_cons, List.length_nil, Nat.reduceAdd, Nat.reduceMul, Nat.zero_add, Nat.zero_mul, List.cons_append, List.nil_append]; exact rfl)) ?_
      refine ga_branch (rs := [7]) (by kernel_rfl) rfl (.cons (ls' := [true, true, true, true, true, true, true, true]) rfl rfl ?_ .nil)
      refine gs_store ksz66 rfl rfl rfl rfl rfl rfl (by first | exact .head | exact .tail .head | exact .tail (.tail .head) | exact .tail (.tail (.tail .head)) | exact .tail (.tail (.tail (.tail .head))) | exact .tail (.tail (.tail (.tail (.tail .head))))) (by simp) (by first | ((with_reducible refine splice_all _ _ ?_); simp; done) | (simp only [splice, stL, digL, List.take_succ_cons, List.take_zero, List.drop_succ_cons, List.drop_zero, List.length_cons, List.length_nil, Nat.reduceAdd, Nat.reduceMul, Nat.zero_add, Nat.zero_mul, List.cons_append, List.nil_append]; exact rfl)) ?_
      refine ga_done (by kernel_rfl) ?_
      refine gk_seq ?_
      refine gc_seq ?_
      refine gc_seq ?_
      refine gc_region ?_
      refine gl_cons (gs_val (val_assign rfl) rfl rfl rfl ?_)
      refine gl_nil ?_
      refine gk_seq ?_
      refine gc_block ?_
      refine gc_loop (σ := Nat) (I := fun k => k ≤ 18) (μ := fun k => 18 - k) (EI := fun k => [(11, I64 (k : Int)), (7, .slice ba18 144 c18), (8, .slice ba21 144 c21), (9, .pointer (some ⟨b9, 0, none⟩)), (10, .pointer (some ⟨b10, 0, none⟩))]) (LI := fun k => ⟨b10, .cells (dgL b).toArray 66 (0, 0)⟩ :: ⟨b9, .cells (dgL a).toArray 66 (0, 0)⟩ :: (N21 ++ (N18 ++ [⟨b5, .cells (digL b).toArray 22 (0, 0)⟩, ⟨b4, .cells (digL a).toArray 22 (0, 0)⟩, ⟨b3, .cells (digL s).toArray 22 (0, 0)⟩]))) 0 ?_ ?_ ?_ ?_
      · exact Nat.zero_le _
      · exact (.cons rfl (.cons rfl (.cons rfl (.cons rfl (.cons rfl .nil)))))
      · exact fun _ h => h
      · intro k hI
        have hI : k ≤ 18 := hI
        refine gc_seq ?_
        refine gc_seq ?_
        refine gc_region ?_
        refine gl_cons (gs_val (val_move rfl) rfl rfl rfl ?_)
        refine gl_cons (gs_val (val_lss rfl rfl) rfl rfl rfl ?_)
        refine gl_nil ?_
        refine gk_seq ?_
        refine gc_if rfl (fun hk => ?_) (fun hk => ?_)
        · have hk : k < 18 := by omega
          have ha := dgc_le a k hk
          have hb := dgc_le b k hk
          have hx : shownW (signL s a 18) k = hChainI (onceB s k) (dgc a k : Int) := shown_sign s a k hk
          have hy : shownW (signL s b 18) k = hChainI (onceB s k) (dgc b k : Int) := shown_sign s b k hk
          refine gc_skip ?_
          refine gk_seq ?_
          refine gc_seq ?_
          refine gc_block ?_
          refine gc_seq ?_
          refine gc_region ?_
          refine gl_cons (gs_val (val_move rfl) rfl rfl rfl ?_)
          refine gl_cons (gs_val (val_move rfl) rfl rfl rfl ?_)
          refine gl_cons (gs_pure (enters kcall70 (.cons rfl (.cons rfl .nil))) (shown_ok ba18 144 c18 (signL s a 18) (sign_len s a) k rfl hk h18.cap) rfl rfl rfl (row_of_sees (h18.look (by repeat (first | exact .here | exact .headR | exact .app | refine .tail ?_ | refine .appr ?_)))) ?_)
          refine gl_cons (gs_val (val_move rfl) rfl rfl rfl ?_)
          refine gl_cons (gs_val (val_extract rfl rfl) rfl rfl rfl ?_)
          refine gl_cons (gs_val (val_extract rfl rfl) rfl rfl rfl ?_)
          refine gl_cons (gs_alloc kze24 rfl rfl rfl (fun b12 => ?_))
          refine gl_cons (gs_store ksz24 rfl rfl rfl rfl rfl rfl (by first | exact .head | exact .tail .head | exact .tail (.tail .head) | exact .tail (.tail (.tail .head)) | exact .tail (.tail (.tail (.tail .head))) | exact .tail (.tail (.tail (.tail (.tail .head))))) (by simp) (by first | ((with_reducible refine splice_all _ _ ?_); simp; done) | (simp only [splice, stL, digL, List.take_succ_cons, List.take_zero, List.drop_succ_cons, List.drop_zero, List.length_cons, List.length_nil, Nat.reduceAdd, Nat.reduceMul, Nat.zero_add, Nat.zero_mul, List.cons_append, List.nil_append]; exact rfl)) ?_)
          refine gl_cons (gs_val (val_assign rfl) rfl rfl rfl ?_)
          refine gl_nil ?_
          refine gk_seq ?_
          refine gc_seq ?_
          refine gc_region ?_
          refine gl_cons (gs_val (val_move rfl) rfl rfl rfl ?_)
          refine gl_cons (gs_val (val_move rfl) rfl rfl rfl ?_)
          refine gl_cons (gs_pure (enters kcall70 (.cons rfl (.cons rfl .nil))) (shown_ok ba21 144 c21 (signL s b 18) (sign_len s b) k rfl hk h21.cap) rfl rfl rfl (row_of_sees (h21.look (by repeat (first | exact .here | exact .headR | exact .app | refine .tail ?_ | refine .appr ?_)))) ?_)
          refine gl_cons (gs_val (val_move rfl) rfl rfl rfl ?_)
          refine gl_cons (gs_val (val_extract rfl rfl) rfl rfl rfl ?_)
          refine gl_cons (gs_val (val_extract rfl rfl) rfl rfl rfl ?_)
          refine gl_cons (gs_alloc kze24 rfl rfl rfl (fun b14 => ?_))
          refine gl_cons (gs_store ksz24 rfl rfl rfl rfl rfl rfl (by first | exact .head | exact .tail .head | exact .tail (.tail .head) | exact .tail (.tail (.tail .head)) | exact .tail (.tail (.tail (.tail .head))) | exact .tail (.tail (.tail (.tail (.tail .head))))) (by simp) (by first | ((with_reducible refine splice_all _ _ ?_); simp; done) | (simp only [splice, stL, digL, List.take_succ_cons, List.take_zero, List.drop_succ_cons, List.drop_zero, List.length_cons, List.length_nil, Nat.reduceAdd, Nat.reduceMul, Nat.zero_add, Nat.zero_mul, List.cons_append, List.nil_append]; exact rfl)) ?_)
          refine gl_cons (gs_val (val_assign rfl) rfl rfl rfl ?_)
          refine gl_nil ?_
          refine gk_seq ?_
          refine gc_seq ?_
          by_cases hc : dgc b k ≤ dgc a k
          · skip
            refine gc_drawAll kmixed (by kernel_rfl) ?_
            refine gq_val (val_move rfl) rfl rfl rfl ?_
            refine gq_val (val_not rfl) rfl rfl rfl ?_
            refine gq_val (val_move rfl) rfl rfl rfl ?_
            refine gq_val (val_move rfl) rfl rfl rfl ?_
            refine gq_val (val_not rfl) rfl rfl rfl ?_
            refine gq_val (val_pick_f rfl rfl) rfl rfl rfl ?_
            refine gq_val (val_move rfl) rfl rfl rfl ?_
            refine gq_val (val_move rfl) rfl rfl rfl ?_
            refine gq_val (val_indexArr kar66 rfl rfl rfl (by omega)) rfl rfl rfl ?_
            refine gq_val (val_load1 (v := I64 (dgc a k : Int)) kag3 rfl (sees_mem (by repeat (first | exact .head _ | refine .tail _ ?_ | refine List.mem_append_right _ ?_))) (dgL_get a k hk)) rfl rfl rfl ?_
            refine gq_val (val_move rfl) rfl rfl rfl ?_
            refine gq_val (val_indexArr kar66 rfl rfl rfl (by omega)) rfl rfl rfl ?_
            refine gq_val (val_load1 (v := I64 (dgc b k : Int)) kag3 rfl (sees_mem (by repeat (first | exact .head _ | refine .tail _ ?_ | refine List.mem_append_right _ ?_))) (dgL_get b k hk)) rfl rfl rfl ?_
            refine gq_val (val_yes (val_geq rfl rfl) (by omega)) rfl rfl rfl ?_
            refine gq_val (val_move rfl) rfl rfl rfl ?_
            refine gq_val (val_loadA kag24 rfl (sees_mem (by repeat (first | exact .head _ | refine .tail _ ?_ | refine List.mem_append_right _ ?_))) rfl rfl) rfl rfl rfl ?_
            refine gq_val (val_move rfl) rfl rfl rfl ?_
            refine gq_val (val_indexArr kar66 rfl rfl rfl (by omega)) rfl rfl rfl ?_
            refine gq_val (val_load1 (v := I64 (dgc a k : Int)) kag3 rfl (sees_mem (by repeat (first | exact .head _ | refine .tail _ ?_ | refine List.mem_append_right _ ?_))) (dgL_get a k hk)) rfl rfl rfl ?_
            refine gq_val (val_move rfl) rfl rfl rfl ?_
            refine gq_val (val_indexArr kar66 rfl rfl rfl (by omega)) rfl rfl rfl ?_
            refine gq_val (val_load1 (v := I64 (dgc b k : Int)) kag3 rfl (sees_mem (by repeat (first | exact .head _ | refine .tail _ ?_ | refine List.mem_append_right _ ?_))) (dgL_get b k hk)) rfl rfl rfl ?_
            refine gq_val (val_subI rfl rfl (by omega)) rfl rfl rfl ?_
            refine gq_pure (enters kcall40 (.cons rfl (.cons rfl .nil))) (chain_spec _ _) rfl rfl rfl (fun _ _ => trivial) ?_
            refine gq_val (val_loadA kag24 rfl (sees_mem (by repeat (first | exact .head _ | refine .tail _ ?_ | refine List.mem_append_right _ ?_))) rfl rfl) rfl rfl rfl ?_
            refine gq_val (val_no (val_neqDig kdig24 rfl rfl rfl rfl) (fun h => h (by rw [hx, hy]; exact chain_more _ _ _ hc ha))) rfl rfl rfl ?_
            refine gq_val (val_pick_t rfl rfl) rfl rfl rfl ?_
            refine gq_val (val_pick_f rfl rfl) rfl rfl rfl ?_
            refine gq_val (val_move rfl) rfl rfl rfl ?_
            refine gq_val (val_move rfl) rfl rfl rfl ?_
            refine gq_val (val_indexArr kar66 rfl rfl rfl (by omega)) rfl rfl rfl ?_
            refine gq_val (val_load1 (v := I64 (dgc b k : Int)) kag3 rfl (sees_mem (by repeat (first | exact .head _ | refine .tail _ ?_ | refine List.mem_append_right _ ?_))) (dgL_get b k hk)) rfl rfl rfl ?_
            refine gq_val (val_move rfl) rfl rfl rfl ?_
            refine gq_val (val_indexArr kar66 rfl rfl rfl (by omega)) rfl rfl rfl ?_
            refine gq_val (val_load1 (v := I64 (dgc a k : Int)) kag3 rfl (sees_mem (by repeat (first | exact .head _ | refine .tail _ ?_ | refine List.mem_append_right _ ?_))) (dgL_get a k hk)) rfl rfl rfl ?_
            refine gq_val (val_no (val_gtr rfl rfl) (by omega)) rfl rfl rfl ?_
            refine gq_val (val_move rfl) rfl rfl rfl ?_
            refine gq_skip rfl rfl rfl ?_
            refine gq_skip rfl rfl rfl ?_
            refine gq_skip rfl rfl rfl ?_
            refine gq_skip rfl rfl rfl ?_
            refine gq_skip rfl rfl rfl ?_
            refine gq_skip rfl rfl rfl ?_
            refine gq_skip rfl rfl rfl ?_
            refine gq_skip rfl rfl rfl ?_
            refine gq_skip rfl rfl rfl ?_
            refine gq_skip rfl rfl rfl ?_
            refine gq_skip rfl rfl rfl ?_
            refine gq_val (val_pick_f rfl rfl) rfl rfl rfl ?_
            refine gq_val (val_pick_f rfl rfl) rfl rfl rfl ?_
            refine gq_nil ?_
            refine gl_nil ?_
            refine gk_seq ?_
            refine gc_false rfl ?_
            refine gc_skip ?_
            refine gk_block ?_
            refine gk_seq ?_
            refine gc_region ?_
            refine gl_cons (gs_val (val_move rfl) rfl rfl rfl ?_)
            refine gl_cons (gs_val (val_addI rfl rfl (by omega)) rfl rfl rfl ?_)
            refine gl_cons (gs_val (val_assign rfl) rfl rfl rfl ?_)
            refine gl_nil ?_
            refine gk_again (k + 1) ?_ ?_ ?_ ?_
            · show k + 1 ≤ 18; omega
            · show 18 - (k + 1) < 18 - k; omega
            · exact (.cons (rfl) (.cons (rfl) (.cons (rfl) (.cons (rfl) (.cons (rfl) .nil)))))
            · exact fun _ h => h.sub (.cons _ (.cons _ (List.Sublist.refl _)))
          · skip
            refine gc_drawAll kmixed (by kernel_rfl) ?_
            refine gq_val (val_move rfl) rfl rfl rfl ?_
            refine gq_val (val_not rfl) rfl rfl rfl ?_
            refine gq_val (val_move rfl) rfl rfl rfl ?_
            refine gq_val (val_move rfl) rfl rfl rfl ?_
            refine gq_val (val_not rfl) rfl rfl rfl ?_
            refine gq_val (val_pick_f rfl rfl) rfl rfl rfl ?_
            refine gq_val (val_move rfl) rfl rfl rfl ?_
            refine gq_val (val_move rfl) rfl rfl rfl ?_
            refine gq_val (val_indexArr kar66 rfl rfl rfl (by omega)) rfl rfl rfl ?_
            refine gq_val (val_load1 (v := I64 (dgc a k : Int)) kag3 rfl (sees_mem (by repeat (first | exact .head _ | refine .tail _ ?_ | refine List.mem_append_right _ ?_))) (dgL_get a k hk)) rfl rfl rfl ?_
            refine gq_val (val_move rfl) rfl rfl rfl ?_
            refine gq_val (val_indexArr kar66 rfl rfl rfl (by omega)) rfl rfl rfl ?_
            refine gq_val (val_load1 (v := I64 (dgc b k : Int)) kag3 rfl (sees_mem (by repeat (first | exact .head _ | refine .tail _ ?_ | refine List.mem_append_right _ ?_))) (dgL_get b k hk)) rfl rfl rfl ?_
            refine gq_val (val_no (val_geq rfl rfl) (by omega)) rfl rfl rfl ?_
            refine gq_val (val_move rfl) rfl rfl rfl ?_
            refine gq_skip rfl rfl rfl ?_
            refine gq_skip rfl rfl rfl ?_
            refine gq_skip rfl rfl rfl ?_
            refine gq_skip rfl rfl rfl ?_
            refine gq_skip rfl rfl rfl ?_
            refine gq_skip rfl rfl rfl ?_
            refine gq_skip rfl rfl rfl ?_
            refine gq_skip rfl rfl rfl ?_
            refine gq_skip rfl rfl rfl ?_
            refine gq_skip rfl rfl rfl ?_
            refine gq_skip rfl rfl rfl ?_
            refine gq_val (val_pick_f rfl rfl) rfl rfl rfl ?_
            refine gq_val (val_pick_f rfl rfl) rfl rfl rfl ?_
            refine gq_val (val_move rfl) rfl rfl rfl ?_
            refine gq_val (val_move rfl) rfl rfl rfl ?_
            refine gq_val (val_indexArr kar66 rfl rfl rfl (by omega)) rfl rfl rfl ?_
            refine gq_val (val_load1 (v := I64 (dgc b k : Int)) kag3 rfl (sees_mem (by repeat (first | exact .head _ | refine .tail _ ?_ | refine List.mem_append_right _ ?_))) (dgL_get b k hk)) rfl rfl rfl ?_
            refine gq_val (val_move rfl) rfl rfl rfl ?_
            refine gq_val (val_indexArr kar66 rfl rfl rfl (by omega)) rfl rfl rfl ?_
            refine gq_val (val_load1 (v := I64 (dgc a k : Int)) kag3 rfl (sees_mem (by repeat (first | exact .head _ | refine .tail _ ?_ | refine List.mem_append_right _ ?_))) (dgL_get a k hk)) rfl rfl rfl ?_
            refine gq_val (val_yes (val_gtr rfl rfl) (by omega)) rfl rfl rfl ?_
            refine gq_val (val_move rfl) rfl rfl rfl ?_
            refine gq_val (val_loadA kag24 rfl (sees_mem (by repeat (first | exact .head _ | refine .tail _ ?_ | refine List.mem_append_right _ ?_))) rfl rfl) rfl rfl rfl ?_
            refine gq_val (val_move rfl) rfl rfl rfl ?_
            refine gq_val (val_indexArr kar66 rfl rfl rfl (by omega)) rfl rfl rfl ?_
            refine gq_val (val_load1 (v := I64 (dgc b k : Int)) kag3 rfl (sees_mem (by repeat (first | exact .head _ | refine .tail _ ?_ | refine List.mem_append_right _ ?_))) (dgL_get b k hk)) rfl rfl rfl ?_
            refine gq_val (val_move rfl) rfl rfl rfl ?_
            refine gq_val (val_indexArr kar66 rfl rfl rfl (by omega)) rfl rfl rfl ?_
            refine gq_val (val_load1 (v := I64 (dgc a k : Int)) kag3 rfl (sees_mem (by repeat (first | exact .head _ | refine .tail _ ?_ | refine List.mem_append_right _ ?_))) (dgL_get a k hk)) rfl rfl rfl ?_
            refine gq_val (val_subI rfl rfl (by omega)) rfl rfl rfl ?_
            refine gq_pure (enters kcall40 (.cons rfl (.cons rfl .nil))) (chain_spec _ _) rfl rfl rfl (fun _ _ => trivial) ?_
            refine gq_val (val_loadA kag24 rfl (sees_mem (by repeat (first | exact .head _ | refine .tail _ ?_ | refine List.mem_append_right _ ?_))) rfl rfl) rfl rfl rfl ?_
            refine gq_val (val_no (val_neqDig kdig24 rfl rfl rfl rfl) (fun h => h (by rw [hx, hy]; exact chain_more _ _ _ (by omega) hb))) rfl rfl rfl ?_
            refine gq_val (val_pick_t rfl rfl) rfl rfl rfl ?_
            refine gq_val (val_pick_f rfl rfl) rfl rfl rfl ?_
            refine gq_nil ?_
            refine gl_nil ?_
            refine gk_seq ?_
            refine gc_false rfl ?_
            refine gc_skip ?_
            refine gk_block ?_
            refine gk_seq ?_
            refine gc_region ?_
            refine gl_cons (gs_val (val_move rfl) rfl rfl rfl ?_)
            refine gl_cons (gs_val (val_addI rfl rfl (by omega)) rfl rfl rfl ?_)
            refine gl_cons (gs_val (val_assign rfl) rfl rfl rfl ?_)
            refine gl_nil ?_
            refine gk_again (k + 1) ?_ ?_ ?_ ?_
            · show k + 1 ≤ 18; omega
            · show 18 - (k + 1) < 18 - k; omega
            · exact (.cons (rfl) (.cons (rfl) (.cons (rfl) (.cons (rfl) (.cons (rfl) .nil)))))
            · exact fun _ h => h.sub (.cons _ (.cons _ (List.Sublist.refl _)))
        · skip
          refine gc_exit ?_
          refine gk_seq_exit ?_
          refine gk_loop_exit ?_
          refine gk_block_exit ?_
          refine gk_seq ?_
          refine gc_seq ?_
          refine gc_region ?_
          refine gl_cons (gs_pure (enters kcall60 .nil) (known05_spec) rfl rfl rfl (fun _ _ => trivial) ?_)
          refine gl_cons (gs_val (val_assign rfl) rfl rfl rfl ?_)
          refine gl_nil ?_
          refine gk_seq ?_
          refine gc_ret ?_
          refine gk_ret rfl (resv_tmp rfl .nil) (List.nil_sublist _) ?_
          exact ⟨rfl, rfl⟩

/-- baize/baizelaw05.OnceApart -/
theorem onceApart_walk (s m : BitVec 64) (at' : Int) : Pure Try.prog 17 ([Dig s, Dig m, I64 at']).toArray (fun _ => True) (.bool true) := by
  obtain ⟨k, hk, hkl⟩ : ∃ k : Nat, (BitVec.ofInt 64 at' % 144#64).toNat = k ∧ k < 144 := ⟨_, rfl, by rw [BitVec.toNat_umod]; exact Nat.mod_lt _ (by decide)⟩
  refine spec_walk (n := 57) Try.func17 rfl rfl rfl (fun w0 hpre => ?_)
  refine gc_seq ?_
  refine gc_region ?_
  refine gl_cons (gs_box rfl rfl rfl rfl (fun b3 => ?_))
  refine gl_cons (gs_box rfl rfl rfl rfl (fun b4 => ?_))
  refine gl_cons (gs_val (val_assign rfl) rfl rfl rfl ?_)
  refine gl_nil ?_
  refine gk_seq ?_
  refine gc_seq ?_
  refine gc_region ?_
  refine gl_cons (gs_val (val_loadA kag22 rfl (sees_mem (by repeat (first | exact .head _ | refine .tail _ ?_ | refine List.mem_append_right _ ?_))) rfl rfl) rfl rfl rfl ?_)
  refine gl_cons (gs_val (val_loadA kag22 rfl (sees_mem (by repeat (first | exact .head _ | refine .tail _ ?_ | refine List.mem_append_right _ ?_))) rfl rfl) rfl rfl rfl ?_)
  refine gl_cons (gs_makes (enters kcall64 (.cons rfl (.cons rfl .nil))) (sign_spec s m) rfl rfl rfl (fun _ _ => trivial) (fun ⟨ba13, c13, N13⟩ h13 => ?_))
  have own13 : Own 5 1 ba13 144 c13 ((signL s m 18).map U8) N13 := h13
  refine gl_cons (gs_val (val_assign rfl) rfl rfl rfl ?_)
  refine gl_nil ?_
  refine gk_seq ?_
  refine gc_seq ?_
  refine gc_seq ?_
  refine gc_region ?_
  refine gl_cons (gs_val (val_move rfl) rfl rfl rfl ?_)
  refine gl_cons (gs_val (val_lenSli ksl37 rfl) rfl rfl rfl ?_)
  refine gl_cons (gs_val (val_no (val_neq rfl rfl) (fun h => h rfl)) rfl rfl rfl ?_)
  refine gl_nil ?_
  refine gk_seq ?_
  refine gc_false rfl ?_
  refine gc_skip ?_
  refine gk_seq ?_
  refine gc_seq ?_
  refine gc_region ?_
  refine gl_cons (gs_buildSlice (zs := []) ksl37 kze5 rfl rfl .nil .nil rfl rfl (fun b17 => ?_))
  refine gl_cons (gs_val (val_move rfl) rfl rfl rfl ?_)
  refine gl_cons (gs_append ksl37 kze5 rfl rfl rfl rfl rfl rfl (own_lit (xs := []) rfl) (fun _ => by first | exact .here | exact .headR | exact .app | exact .tail .here | exact .tail .headR | exact .tail .app | exact .tail (.tail .here) | exact .tail (.tail .headR) | exact .tail (.tail .app) | exact .tail (.tail (.tail .here)) | exact .tail (.tail (.tail .headR)) | exact .tail (.tail (.tail .app)) | exact .tail (.tail (.tail (.tail .here))) | exact .tail (.tail (.tail (.tail .headR))) | exact .tail (.tail (.tail (.tail .app))) | exact .tail (.tail (.tail (.tail (.tail .here)))) | exact .tail (.tail (.tail (.tail (.tail .headR)))) | exact .tail (.tail (.tail (.tail (.tail .app)))) | exact .appr .here | exact .appr .headR | exact .appr .app | exact .tail (.appr .here) | exact .tail (.appr .headR) | exact .tail (.appr .app) | exact .tail (.tail (.appr .here)) | exact .tail (.tail (.appr .headR)) | exact .tail (.tail (.appr .app)) | exact .appr (.tail .here) | exact .appr (.tail .headR) | exact .appr (.tail .app) | exact .appr (.tail (.tail .here)) | exact .appr (.tail (.tail .headR)) | exact .appr (.tail (.tail .app)) | exact .appr (.appr .here) | exact .appr (.appr .headR) | exact .appr (.appr .app) | exact .tail (.appr (.appr .here)) | exact .tail (.appr (.appr .headR)) | exact .tail (.appr (.appr .app)) | exact .appr (.appr (.tail .here)) | exact .appr (.appr (.tail .headR)) | exact .appr (.appr (.tail .app)) | exact .appr (.appr (.appr .here)) | exact .appr (.appr (.appr .headR)) | exact .appr (.appr (.appr .app))) (brings_slice ksl37 (h13.look (by repeat (first | exact .here | exact .headR | exact .app | refine .tail ?_ | refine .appr ?_))) (by rw [List.length_map, sign_len]) (one_map (fun _ => rfl) _)) (by omega) (fun ba19 c19 N19 hown19 => ?_))
  have hk144 : k < (signL s m 18).length := by rw [sign_len]; exact hkl
  refine gx_perm (M := ⟨b4, .cells (digL m).toArray 22 (0, 0)⟩ :: ⟨b3, .cells (digL s).toArray 22 (0, 0)⟩ :: (N13 ++ N19)) ((List.perm_append_comm (l₁ := N13) (l₂ := [_, _])).append_right N19) ?_
  refine gl_cons (gs_val (val_assign rfl) rfl rfl rfl ?_)
  refine gl_nil ?_
  refine gk_seq ?_
  refine gc_seq ?_
  refine gc_region ?_
  refine gl_cons (gs_val (val_loadA kag22 rfl (sees_mem (by repeat (first | exact .head _ | refine .tail _ ?_ | refine List.mem_append_right _ ?_))) rfl rfl) rfl rfl rfl ?_)
  refine gl_cons (gs_pure (enters kcall61 (.cons rfl .nil)) (public_spec s) rfl rfl rfl (fun _ _ => trivial) ?_)
  refine gl_cons (gs_alloc kze24 rfl rfl rfl (fun b9 => ?_))
  refine gl_cons (gs_store ksz24 rfl rfl rfl rfl rfl rfl (by first | exact .head | exact .tail .head | exact .tail (.tail .head) | exact .tail (.tail (.tail .head)) | exact .tail (.tail (.tail (.tail .head))) | exact .tail (.tail (.tail (.tail (.tail .head))))) (by simp) (by first | ((with_reducible refine splice_all _ _ ?_); simp; done) | (simp only [splice, stL, digL, List.take_succ_cons, List.take_zero, List.drop_succ_cons, List.drop_zero, List.length_cons, List.length_nil, Nat.reduceAdd, Nat.reduceMul, Nat.zero_add, Nat.zero_mul, List.cons_append, List.nil_append]; exact rfl)) ?_)
  refine gl_nil ?_
  refine gk_seq ?_
  refine gc_seq ?_
  refine gc_region ?_
  refine gl_cons (gs_val (val_loadA kag24 rfl (sees_mem (by repeat (first | exact .head _ | refine .tail _ ?_ | refine List.mem_append_right _ ?_))) rfl rfl) rfl rfl rfl ?_)
  refine gl_cons (gs_val (val_loadA kag22 rfl (sees_mem (by repeat (first | exact .head _ | refine .tail _ ?_ | refine List.mem_append_right _ ?_))) rfl rfl) rfl rfl rfl ?_)
  refine gl_cons (gs_val (val_move rfl) rfl rfl rfl ?_)
  refine gl_cons (gs_pure (enters kcall72 (.cons rfl (.cons rfl (.cons rfl .nil)))) (verify_yes ba13 144 c13 (signL s m 18) (sign_len _ _) (onceKey s) m (by first | exact h10.cap | exact h13.cap | exact h44.cap | exact h18.cap) (told_of_sign s m)) rfl rfl rfl (row_of_sees (h13.look (by repeat (first | exact .here | exact .headR | exact .app | refine .tail ?_ | refine .appr ?_)))) ?_)
  refine gl_nil ?_
  refine gk_seq ?_
  refine gc_seq ?_
  refine gc_region ?_
  refine gl_cons (gs_val (val_loadA kag22 rfl (sees_mem (by repeat (first | exact .head _ | refine .tail _ ?_ | refine List.mem_append_right _ ?_))) rfl rfl) rfl rfl rfl ?_)
  refine gl_cons (gs_val (val_move rfl) rfl rfl rfl ?_)
  refine gl_cons (gs_pure (enters kcall68 (.cons rfl (.cons rfl .nil))) (told_spec ba13 144 c13 (signL s m 18) (sign_len s m) m h13.cap) rfl rfl rfl (row_of_sees (h13.look (by repeat (first | exact .here | exact .headR | exact .app | refine .tail ?_ | refine .appr ?_)))) ?_)
  refine gl_nil ?_
  refine gk_seq ?_
  refine gc_seq ?_
  refine gc_seq ?_
  refine gc_region ?_
  refine gl_cons (gs_val (val_move rfl) rfl rfl rfl ?_)
  refine gl_cons (gs_val (val_move rfl) rfl rfl rfl ?_)
  refine gl_cons (gs_pure (enters kcall63 (.cons rfl (.cons rfl .nil))) (same01_yes ba13 ba19 144 (0 + 144) c13 c19 (signL s m 18) (signL s m 18) (sign_len s m) (sign_len s m) (by decide) rfl) rfl rfl rfl (fun w hi => ⟨row_of_sees (h13.look (by repeat (first | exact .here | exact .headR | exact .app | refine .tail ?_ | refine .appr ?_))) w hi, row_of_sees (hown19.look (by repeat (first | exact .here | exact .headR | exact .app | refine .tail ?_ | refine .appr ?_))) w hi⟩) ?_)
  refine gl_cons (gs_val (val_not rfl) rfl rfl rfl ?_)
  refine gl_nil ?_
  refine gk_seq ?_
  refine gc_false rfl ?_
  refine gc_skip ?_
  refine gk_seq ?_
  refine gc_seq ?_
  refine gc_region ?_
  refine gl_cons (gs_val (val_move rfl) rfl rfl rfl ?_)
  refine gl_cons (gs_val (val_move rfl) rfl rfl rfl ?_)
  refine gl_cons (gs_val (val_conv64 rfl kis3 kun23) rfl rfl rfl ?_)
  refine gl_cons (gs_val (val_rem64 (j := 144#64) rfl rfl rfl rfl (by decide)) rfl rfl rfl ?_)
  refine gl_cons (gs_val (val_cast (v := I64 (k : Int)) (val_convI rfl kis23 kun3 (by rw [hk]; omega)) (congrArg (fun z : Nat => I64 (z : Int)) hk)) rfl rfl rfl ?_)
  refine gl_cons (gs_val (val_indexSli ksl37 rfl rfl rfl (by omega) (own13.look (by repeat (first | exact .here | exact .headR | exact .app | refine .tail ?_ | refine .appr ?_))) (by (try simp only [List.length_map, Nat.mul_one, dig_len, inc_len]); omega)) rfl rfl rfl ?_)
  refine gl_cons (gs_val (val_load1 kag5 rfl ((own13.look (by repeat (first | exact .here | exact .headR | exact .app | refine .tail ?_ | refine .appr ?_))).elem hk144) rfl) rfl rfl rfl ?_)
  refine gl_cons (gs_val (val_add8 (j := 1) rfl rfl) rfl rfl rfl ?_)
  refine gl_cons (gs_val (val_indexSli ksl37 rfl rfl rfl (by omega) (own13.look (by repeat (first | exact .here | exact .headR | exact .app | refine .tail ?_ | refine .appr ?_))) (by (try simp only [List.length_map, Nat.mul_one, dig_len, inc_len]); omega)) rfl rfl rfl ?_)
  refine gl_cons (gs_storeOwn (m := k) (v := U8 ((signL s m 18)[k]'hk144 + 1)) ksz5 rfl rfl rfl rfl rfl own13 (by rw [List.length_map]; exact hk144) (fun _ => .tail (.tail (.tail .app))) (fun N2 hin2 => ?_))
  refine gl_nil ?_
  refine gk_seq ?_
  refine gc_seq ?_
  refine gc_region ?_
  refine gl_cons (gs_val (val_loadA kag22 rfl (sees_mem (by repeat (first | exact .head _ | refine .tail _ ?_ | refine List.mem_append_right _ ?_))) rfl rfl) rfl rfl rfl ?_)
  refine gl_cons (gs_val (val_loadA kag22 rfl (sees_mem (by repeat (first | exact .head _ | refine .tail _ ?_ | refine List.mem_append_right _ ?_))) rfl rfl) rfl rfl rfl ?_)
  refine gl_cons (gs_makes (enters kcall64 (.cons rfl (.cons rfl .nil))) (sign_spec s m) rfl rfl rfl (fun _ _ => trivial) (fun ⟨ba44, c44, N44⟩ h44 => ?_))
  refine gl_cons (gs_val (val_assign rfl) rfl rfl rfl ?_)
  refine gl_nil ?_
  refine gk_seq ?_
  refine gc_seq ?_
  refine gc_region ?_
  refine gl_cons (gs_pure (enters kcall60 .nil) (known05_spec) rfl rfl rfl (fun _ _ => trivial) ?_)
  refine gl_cons (gs_val (val_move rfl) rfl rfl rfl ?_)
  refine gl_cons (gs_val (val_move rfl) rfl rfl rfl ?_)
  refine gl_cons (gs_val (val_move rfl) rfl rfl rfl ?_)
  refine gl_cons (gs_pure (enters kcall63 (.cons rfl (.cons rfl .nil))) (same01_yes ba44 ba19 144 (0 + 144) c44 c19 (signL s m 18) (signL s m 18) (sign_len s m) (sign_len s m) (by decide) rfl) rfl rfl rfl (fun w hi => ⟨row_of_sees (h44.look (by repeat (first | exact .here | exact .headR | exact .app | refine .tail ?_ | refine .appr ?_))) w hi, row_of_sees (hown19.look (by repeat (first | exact .here | exact .headR | exact .app | refine .tail ?_ | refine .appr ?_))) w hi⟩) ?_)
  refine gl_cons (gs_val (val_pick_t rfl rfl) rfl rfl rfl ?_)
  refine gl_cons (gs_val (val_move rfl) rfl rfl rfl ?_)
  refine gl_cons (gs_val (val_loadA kag24 rfl (sees_mem (by repeat (first | exact .head _ | refine .tail _ ?_ | refine List.mem_append_right _ ?_))) rfl rfl) rfl rfl rfl ?_)
  refine gl_cons (gs_val (val_loadA kag22 rfl (sees_mem (by repeat (first | exact .head _ | refine .tail _ ?_ | refine List.mem_append_right _ ?_))) rfl rfl) rfl rfl rfl ?_)
  refine gl_cons (gs_val (val_move rfl) rfl rfl rfl ?_)
  refine gl_cons (gs_pure (enters kcall72 (.cons rfl (.cons rfl (.cons rfl .nil)))) (verify_yes ba44 144 c44 (signL s m 18) (sign_len _ _) (onceKey s) m (by first | exact h10.cap | exact h13.cap | exact h44.cap | exact h18.cap) (told_of_sign s m)) rfl rfl rfl (row_of_sees (h44.look (by repeat (first | exact .here | exact .headR | exact .app | refine .tail ?_ | refine .appr ?_)))) ?_)
  refine gl_cons (gs_val (val_pick_t rfl rfl) rfl rfl rfl ?_)
  refine gl_cons (gs_val (val_assign rfl) rfl rfl rfl ?_)
  refine gl_nil ?_
  refine gk_seq ?_
  refine gc_ret ?_
  refine gk_ret rfl (resv_tmp rfl .nil) (List.nil_sublist _) ?_
  exact ⟨rfl, rfl⟩

set_option maxRecDepth 8000 in
/-- baize/baizelaw05.OnceMixes -/
theorem onceMixes_walk (s a b m : BitVec 64) (wh : Int) (hw1 : 0 ≤ wh) (hw2 : wh ≤ 4294967295) : Pure Try.prog 16 ([Dig s, Dig a, Dig b, Dig m, .int .u32 wh]).toArray (fun _ => True) (.bool true) := by
  obtain ⟨w1, rfl⟩ : ∃ w1 : Nat, wh = (w1 : Int) := ⟨wh.toNat, by omega⟩
  refine spec_walk (n := 90) Try.func16 rfl rfl rfl (fun w0 hpre => ?_)
  refine gc_seq ?_
  refine gc_region ?_
  refine gl_cons (gs_box rfl rfl rfl rfl (fun b5 => ?_))
  refine gl_cons (gs_box rfl rfl rfl rfl (fun b6 => ?_))
  refine gl_cons (gs_box rfl rfl rfl rfl (fun b7 => ?_))
  refine gl_cons (gs_box rfl rfl rfl rfl (fun b8 => ?_))
  refine gl_cons (gs_val (val_assign rfl) rfl rfl rfl ?_)
  refine gl_nil ?_
  refine gk_seq ?_
  refine gc_seq ?_
  refine ga_start (m := 8) (ls := [false, false, false, false, false, false, false, false]) kmixed rfl rfl ?_
  apply share3 (α := Option Addr) (β := Nat) (γ := List Ent) (m' := 3) (ls' := [true, true, true, true, true, false, false, false])
  · intro hD0
    apply share3 (α := Option Addr) (β := Nat) (γ := List Ent) (m' := 4) (ls' := [true, true, true, true, false, false, false, false])
    · intro hD1
      apply share3 (α := Option Addr) (β := Nat) (γ := List Ent) (m' := 4) (ls' := [true, true, true, false, true, false, false, false])
      · intro hD2
        apply share0  (m' := 4) (ls' := [true, true, false, true, true, false, false, false])
        · intro hD3
          apply share0  (m' := 5) (ls' := [true, true, false, true, false, false, false, false])
          · intro hD4
            apply share0  (m' := 5) (ls' := [true, true, false, false, true, false, false, false])
            · intro hD5
              apply share0  (m' := 5) (ls' := [true, false, false, true, true, false, false, false])
              · intro hD6
                apply share0  (m' := 5) (ls' := [false, true, false, true, true, false, false, false])
                · intro hD7
                  apply share0  (m' := 6) (ls' := [true, true, false, false, false, false, false, false])
                  · intro hD8
                    apply share0  (m' := 6) (ls' := [true, false, false, true, false, false, false, false])
                    · intro hD9
                      apply share0  (m' := 6) (ls' := [true, false, false, false, true, false, false, false])
                      · intro hD10
                        apply share0  (m' := 6) (ls' := [false, true, false, true, false, false, false, false])
                        · intro hD11
                          apply share0  (m' := 6) (ls' := [false, true, false, false, true, false, false, false])
                          · intro hD12
                            apply share0  (m' := 6) (ls' := [false, false, false, true, true, false, false, false])
                            · intro hD13
                              refine ga_branch (rs := [0, 1, 3, 4]) (by kernel_rfl) rfl (.cons (ls' := [true, false, false, false, false, false, false, false]) rfl rfl ?_ (.cons (ls' := [false, true, false, false, false, false, false, false]) rfl rfl ?_ (.cons (ls' := [false, false, false, true, false, false, false, false]) rfl rfl ?_ (.cons (ls' := [false, false, false, false, true, false, false, false]) rfl rfl ?_ .nil))))
                              · skip
                                refine gs_val (val_loadA kag22 rfl (sees_mem (by repeat (first | exact .head _ | refine .tail _ ?_ | refine List.mem_append_right _ ?_))) rfl rfl) rfl rfl rfl ?_
                                refine ga_branch (rs := [1, 3, 4]) (by kernel_rfl) rfl (.cons (ls' := [true, true, false, false, false, false, false, false]) rfl rfl ?_ (.cons (ls' := [true, false, false, true, false, false, false, false]) rfl rfl ?_ (.cons (ls' := [true, false, false, false, true, false, false, false]) rfl rfl ?_ .nil)))
                                · skip
                                  refine gs_val (val_loadA kag22 rfl (sees_mem (by repeat (first | exact .head _ | refine .tail _ ?_ | refine List.mem_append_right _ ?_))) rfl rfl) rfl rfl rfl ?_
                                  refine gx_env (F := [(0, _), (1, _), (2, _), (3, _), (4, _), (5, _), (6, _), (7, _), (8, _), (10, _), (20, _), (21, _)]) (.cons rfl (.cons rfl (.cons rfl (.cons rfl (.cons rfl (.cons rfl (.cons rfl (.cons rfl (.cons rfl (.cons rfl (.cons rfl (.cons rfl .nil)))))))))))) (gx_perm (by first | exact .refl _ | (repeat (first | exact .refl _ | refine perm_take (by first | exact .head | exact .tail .head | exact .tail (.tail .head) | exact .tail (.tail (.tail .head)) | exact .tail (.tail (.tail (.tail .head))) | exact .tail (.tail (.tail (.tail (.tail .head))))) ?_))) (hD8  True.intro))
                                · skip
                                  refine gs_val (val_loadA kag22 rfl (sees_mem (by repeat (first | exact .head _ | refine .tail _ ?_ | refine List.mem_append_right _ ?_))) rfl rfl) rfl rfl rfl ?_
                                  refine gx_env (F := [(0, _), (1, _), (2, _), (3, _), (4, _), (5, _), (6, _), (7, _), (8, _), (10, _), (20, _), (23, _)]) (.cons rfl (.cons rfl (.cons rfl (.cons rfl (.cons rfl (.cons rfl (.cons rfl (.cons rfl (.cons rfl (.cons rfl (.cons rfl (.cons rfl .nil)))))))))))) (gx_perm (by first | exact .refl _ | (repeat (first | exact .refl _ | refine perm_take (by first | exact .head | exact .tail .head | exact .tail (.tail .head) | exact .tail (.tail (.tail .head)) | exact .tail (.tail (.tail (.tail .head))) | exact .tail (.tail (.tail (.tail (.tail .head))))) ?_))) (hD9  True.intro))
                                · skip
                                  refine gs_val (val_loadA kag22 rfl (sees_mem (by repeat (first | exact .head _ | refine .tail _ ?_ | refine List.mem_append_right _ ?_))) rfl rfl) rfl rfl rfl ?_
                                  refine gx_env (F := [(0, _), (1, _), (2, _), (3, _), (4, _), (5, _), (6, _), (7, _), (8, _), (10, _), (20, _), (24, _)]) (.cons rfl (.cons rfl (.cons rfl (.cons rfl (.cons rfl (.cons rfl (.cons rfl (.cons rfl (.cons rfl (.cons rfl (.cons rfl (.cons rfl .nil)))))))))))) (gx_perm (by first | exact .refl _ | (repeat (first | exact .refl _ | refine perm_take (by first | exact .head | exact .tail .head | exact .tail (.tail .head) | exact .tail (.tail (.tail .head)) | exact .tail (.tail (.tail (.tail .head))) | exact .tail (.tail (.tail (.tail (.tail .head))))) ?_))) (hD10  True.intro))
                              · skip
                                refine gs_val (val_loadA kag22 rfl (sees_mem (by repeat (first | exact .head _ | refine .tail _ ?_ | refine List.mem_append_right _ ?_))) rfl rfl) rfl rfl rfl ?_
                                refine ga_branch (rs := [0, 3, 4]) (by kernel_rfl) rfl (.cons (ls' := [true, true, false, false, false, false, false, false]) rfl rfl ?_ (.cons (ls' := [false, true, false, true, false, false, false, false]) rfl rfl ?_ (.cons (ls' := [false, true, false, false, true, false, false, false]) rfl rfl ?_ .nil)))
                                · skip
                                  refine gs_val (val_loadA kag22 rfl (sees_mem (by repeat (first | exact .head _ | refine .tail _ ?_ | refine List.mem_append_right _ ?_))) rfl rfl) rfl rfl rfl ?_
                                  refine gx_env (F := [(0, _), (1, _), (2, _), (3, _), (4, _), (5, _), (6, _), (7, _), (8, _), (10, _), (20, _), (21, _)]) (.cons rfl (.cons rfl (.cons rfl (.cons rfl (.cons rfl (.cons rfl (.cons rfl (.cons rfl (.cons rfl (.cons rfl (.cons rfl (.cons rfl .nil)))))))))))) (gx_perm (by first | exact .refl _ | (repeat (first | exact .refl _ | refine perm_take (by first | exact .head | exact .tail .head | exact .tail (.tail .head) | exact .tail (.tail (.tail .head)) | exact .tail (.tail (.tail (.tail .head))) | exact .tail (.tail (.tail (.tail (.tail .head))))) ?_))) (hD8  True.intro))
                                · skip
                                  refine gs_val (val_loadA kag22 rfl (sees_mem (by repeat (first | exact .head _ | refine .tail _ ?_ | refine List.mem_append_right _ ?_))) rfl rfl) rfl rfl rfl ?_
                                  refine gx_env (F := [(0, _), (1, _), (2, _), (3, _), (4, _), (5, _), (6, _), (7, _), (8, _), (10, _), (21, _), (23, _)]) (.cons rfl (.cons rfl (.cons rfl (.cons rfl (.cons rfl (.cons rfl (.cons rfl (.cons rfl (.cons rfl (.cons rfl (.cons rfl (.cons rfl .nil)))))))))))) (gx_perm (by first | exact .refl _ | (repeat (first | exact .refl _ | refine perm_take (by first | exact .head | exact .tail .head | exact .tail (.tail .head) | exact .tail (.tail (.tail .head)) | exact .tail (.tail (.tail (.tail .head))) | exact .tail (.tail (.tail (.tail (.tail .head))))) ?_))) (hD11  True.intro))
                                · skip
                                  refine gs_val (val_loadA kag22 rfl (sees_mem (by repeat (first | exact .head _ | refine .tail _ ?_ | refine List.mem_append_right _ ?_))) rfl rfl) rfl rfl rfl ?_
                                  refine gx_env (F := [(0, _), (1, _), (2, _), (3, _), (4, _), (5, _), (6, _), (7, _), (8, _), (10, _), (21, _), (24, _)]) (.cons rfl (.cons rfl (.cons rfl (.cons rfl (.cons rfl (.cons rfl (.cons rfl (.cons rfl (.cons rfl (.cons rfl (.cons rfl (.cons rfl .nil)))))))))))) (gx_perm (by first | exact .refl _ | (repeat (first | exact .refl _ | refine perm_take (by first | exact .head | exact .tail .head | exact .tail (.tail .head) | exact .tail (.tail (.tail .head)) | exact .tail (.tail (.tail (.tail .head))) | exact .tail (.tail (.tail (.tail (.tail .head))))) ?_))) (hD12  True.intro))
                              · skip
                                refine gs_val (val_loadA kag22 rfl (sees_mem (by repeat (first | exact .head _ | refine .tail _ ?_ | refine List.mem_append_right _ ?_))) rfl rfl) rfl rfl rfl ?_
                                refine ga_branch (rs := [0, 1, 4]) (by kernel_rfl) rfl (.cons (ls' := [true, false, false, true, false, false, false, false]) rfl rfl ?_ (.cons (ls' := [false, true, false, true, false, false, false, false]) rfl rfl ?_ (.cons (ls' := [false, false, false, true, true, false, false, false]) rfl rfl ?_ .nil)))
                                · skip
                                  refine gs_val (val_loadA kag22 rfl (sees_mem (by repeat (first | exact .head _ | refine .tail _ ?_ | refine List.mem_append_right _ ?_))) rfl rfl) rfl rfl rfl ?_
                                  refine gx_env (F := [(0, _), (1, _), (2, _), (3, _), (4, _), (5, _), (6, _), (7, _), (8, _), (10, _), (20, _), (23, _)]) (.cons rfl (.cons rfl (.cons rfl (.cons rfl (.cons rfl (.cons rfl (.cons rfl (.cons rfl (.cons rfl (.cons rfl (.cons rfl (.cons rfl .nil)))))))))))) (gx_perm (by first | exact .refl _ | (repeat (first | exact .refl _ | refine perm_take (by first | exact .head | exact .tail .head | exact .tail (.tail .head) | exact .tail (.tail (.tail .head)) | exact .tail (.tail (.tail (.tail .head))) | exact .tail (.tail (.tail (.tail (.tail .head))))) ?_))) (hD9  True.intro))
                                · skip
                                  refine gs_val (val_loadA kag22 rfl (sees_mem (by repeat (first | exact .head _ | refine .tail _ ?_ | refine List.mem_append_right _ ?_))) rfl rfl) rfl rfl rfl ?_
                                  refine gx_env (F := [(0, _), (1, _), (2, _), (3, _), (4, _), (5, _), (6, _), (7, _), (8, _), (10, _), (21, _), (23, _)]) (.cons rfl (.cons rfl (.cons rfl (.cons rfl (.cons rfl (.cons rfl (.cons rfl (.cons rfl (.cons rfl (.cons rfl (.cons rfl (.cons rfl .nil)))))))))))) (gx_perm (by first | exact .refl _ | (repeat (first | exact .refl _ | refine perm_take (by first | exact .head | exact .tail .head | exact .tail (.tail .head) | exact .tail (.tail (.tail .head)) | exact .tail (.tail (.tail (.tail .head))) | exact .tail (.tail (.tail (.tail (.tail .head))))) ?_))) (hD11  True.intro))
                                · skip
                                  refine gs_val (val_loadA kag22 rfl (sees_mem (by repeat (first | exact .head _ | refine .tail _ ?_ | refine List.mem_append_right _ ?_))) rfl rfl) rfl rfl rfl ?_
                                  refine gx_env (F := [(0, _), (1, _), (2, _), (3, _), (4, _), (5, _), (6, _), (7, _), (8, _), (10, _), (23, _), (24, _)]) (.cons rfl (.cons rfl (.cons rfl (.cons rfl (.cons rfl (.cons rfl (.cons rfl (.cons rfl (.cons rfl (.cons rfl (.cons rfl (.cons rfl .nil)))))))))))) (gx_perm (by first | exact .refl _ | (repeat (first | exact .refl _ | refine perm_take (by first | exact .head | exact .tail .head | exact .tail (.tail .head) | exact .tail (.tail (.tail .head)) | exact .tail (.tail (.tail (.tail .head))) | exact .tail (.tail (.tail (.tail (.tail .head))))) ?_))) (hD13  True.intro))
                              · skip
                                refine gs_val (val_loadA kag22 rfl (sees_mem (by repeat (first | exact .head _ | refine .tail _ ?_ | refine List.mem_append_right _ ?_))) rfl rfl) rfl rfl rfl ?_
                                refine ga_branch (rs := [0, 1, 3]) (by kernel_rfl) rfl (.cons (ls' := [true, false, false, false, true, false, false, false]) rfl rfl ?_ (.cons (ls' := [false, true, false, false, true, false, false, false]) rfl rfl ?_ (.cons (ls' := [false, false, false, true, true, false, false, false]) rfl rfl ?_ .nil)))
                                · skip
                                  refine gs_val (val_loadA kag22 rfl (sees_mem (by repeat (first | exact .head _ | refine .tail _ ?_ | refine List.mem_append_right _ ?_))) rfl rfl) rfl rfl rfl ?_
                                  refine gx_env (F := [(0, _), (1, _), (2, _), (3, _), (4, _), (5, _), (6, _), (7, _), (8, _), (10, _), (20, _), (24, _)]) (.cons rfl (.cons rfl (.cons rfl (.cons rfl (.cons rfl (.cons rfl (.cons rfl (.cons rfl (.cons rfl (.cons rfl (.cons rfl (.cons rfl .nil)))))))))))) (gx_perm (by first | exact .refl _ | (repeat (first | exact .refl _ | refine perm_take (by first | exact .head | exact .tail .head | exact .tail (.tail .head) | exact .tail (.tail (.tail .head)) | exact .tail (.tail (.tail (.tail .head))) | exact .tail (.tail (.tail (.tail (.tail .head))))) ?_))) (hD10  True.intro))
                                · skip
                                  refine gs_val (val_loadA kag22 rfl (sees_mem (by repeat (first | exact .head _ | refine .tail _ ?_ | refine List.mem_append_right _ ?_))) rfl rfl) rfl rfl rfl ?_
                                  refine gx_env (F := [(0, _), (1, _), (2, _), (3, _), (4, _), (5, _), (6, _), (7, _), (8, _), (10, _), (21, _), (24, _)]) (.cons rfl (.cons rfl (.cons rfl (.cons rfl (.cons rfl (.cons rfl (.cons rfl (.cons rfl (.cons rfl (.cons rfl (.cons rfl (.cons rfl .nil)))))))))))) (gx_perm (by first | exact .refl _ | (repeat (first | exact .refl _ | refine perm_take (by first | exact .head | exact .tail .head | exact .tail (.tail .head) | exact .tail (.tail (.tail .head)) | exact .tail (.tail (.tail (.tail .head))) | exact .tail (.tail (.tail (.tail (.tail .head))))) ?_))) (hD12  True.intro))
                                · skip
                                  refine gs_val (val_loadA kag22 rfl (sees_mem (by repeat (first | exact .head _ | refine .tail _ ?_ | refine List.mem_append_right _ ?_))) rfl rfl) rfl rfl rfl ?_
                                  refine gx_env (F := [(0, _), (1, _), (2, _), (3, _), (4, _), (5, _), (6, _), (7, _), (8, _), (10, _), (23, _), (24, _)]) (.cons rfl (.cons rfl (.cons rfl (.cons rfl (.cons rfl (.cons rfl (.cons rfl (.cons rfl (.cons rfl (.cons rfl (.cons rfl (.cons rfl .nil)))))))))))) (gx_perm (by first | exact .refl _ | (repeat (first | exact .refl _ | refine perm_take (by first | exact .head | exact .tail .head | exact .tail (.tail .head) | exact .tail (.tail (.tail .head)) | exact .tail (.tail (.tail (.tail .head))) | exact .tail (.tail (.tail (.tail (.tail .head))))) ?_))) (hD13  True.intro))
                            · rintro  _
                              refine ga_branch (rs := [0, 1]) (by kernel_rfl) rfl (.cons (ls' := [true, false, false, true, true, false, false, false]) rfl rfl ?_ (.cons (ls' := [false, true, false, true, true, false, false, false]) rfl rfl ?_ .nil))
                              · skip
                                refine gs_val (val_loadA kag22 rfl (sees_mem (by repeat (first | exact .head _ | refine .tail _ ?_ | refine List.mem_append_right _ ?_))) rfl rfl) rfl rfl rfl ?_
                                refine gx_env (F := [(0, _), (1, _), (2, _), (3, _), (4, _), (5, _), (6, _), (7, _), (8, _), (10, _), (20, _), (23, _), (24, _)]) (.cons rfl (.cons rfl (.cons rfl (.cons rfl (.cons rfl (.cons rfl (.cons rfl (.cons rfl (.cons rfl (.cons rfl (.cons rfl (.cons rfl (.cons rfl .nil))))))))))))) (gx_perm (by first | exact .refl _ | (repeat (first | exact .refl _ | refine perm_take (by first | exact .head | exact .tail .head | exact .tail (.tail .head) | exact .tail (.tail (.tail .head)) | exact .tail (.tail (.tail (.tail .head))) | exact .tail (.tail (.tail (.tail (.tail .head))))) ?_))) (hD6  True.intro))
                              · skip
                                refine gs_val (val_loadA kag22 rfl (sees_mem (by repeat (first | exact .head _ | refine .tail _ ?_ | refine List.mem_append_right _ ?_))) rfl rfl) rfl rfl rfl ?_
                                refine gx_env (F := [(0, _), (1, _), (2, _), (3, _), (4, _), (5, _), (6, _), (7, _), (8, _), (10, _), (21, _), (23, _), (24, _)]) (.cons rfl (.cons rfl (.cons rfl (.cons rfl (.cons rfl (.cons rfl (.cons rfl (.cons rfl (.cons rfl (.cons rfl (.cons rfl (.cons rfl (.cons rfl .nil))))))))))))) (gx_perm (by first | exact .refl _ | (repeat (first | exact .refl _ | refine perm_take (by first | exact .head | exact .tail .head | exact .tail (.tail .head) | exact .tail (.tail (.tail .head)) | exact .tail (.tail (.tail (.tail .head))) | exact .tail (.tail (.tail (.tail (.tail .head))))) ?_))) (hD7  True.intro))
                          · rintro  _
                            refine ga_branch (rs := [0, 3]) (by kernel_rfl) rfl (.cons (ls' := [true, true, false, false, true, false, false, false]) rfl rfl ?_ (.cons (ls' := [false, true, false, true, true, false, false, false]) rfl rfl ?_ .nil))
                            · skip
                              refine gs_val (val_loadA kag22 rfl (sees_mem (by repeat (first | exact .head _ | refine .tail _ ?_ | refine List.mem_append_right _ ?_))) rfl rfl) rfl rfl rfl ?_
                              refine gx_env (F := [(0, _), (1, _), (2, _), (3, _), (4, _), (5, _), (6, _), (7, _), (8, _), (10, _), (20, _), (21, _), (24, _)]) (.cons rfl (.cons rfl (.cons rfl (.cons rfl (.cons rfl (.cons rfl (.cons rfl (.cons rfl (.cons rfl (.cons rfl (.cons rfl (.cons rfl (.cons rfl .nil))))))))))))) (gx_perm (by first | exact .refl _ | (repeat (first | exact .refl _ | refine perm_take (by first | exact .head | exact .tail .head | exact .tail (.tail .head) | exact .tail (.tail (.tail .head)) | exact .tail (.tail (.tail (.tail .head))) | exact .tail (.tail (.tail (.tail (.tail .head))))) ?_))) (hD5  True.intro))
                            · skip
                              refine gs_val (val_loadA kag22 rfl (sees_mem (by repeat (first | exact .head _ | refine .tail _ ?_ | refine List.mem_append_right _ ?_))) rfl rfl) rfl rfl rfl ?_
                              refine gx_env (F := [(0, _), (1, _), (2, _), (3, _), (4, _), (5, _), (6, _), (7, _), (8, _), (10, _), (21, _), (23, _), (24, _)]) (.cons rfl (.cons rfl (.cons rfl (.cons rfl (.cons rfl (.cons rfl (.cons rfl (.cons rfl (.cons rfl (.cons rfl (.cons rfl (.cons rfl (.cons rfl .nil))))))))))))) (gx_perm (by first | exact .refl _ | (repeat (first | exact .refl _ | refine perm_take (by first | exact .head | exact .tail .head | exact .tail (.tail .head) | exact .tail (.tail (.tail .head)) | exact .tail (.tail (.tail (.tail .head))) | exact .tail (.tail (.tail (.tail (.tail .head))))) ?_))) (hD7  True.intro))
                        · rintro  _
                          refine ga_branch (rs := [0, 4]) (by kernel_rfl) rfl (.cons (ls' := [true, true, false, true, false, false, false, false]) rfl rfl ?_ (.cons (ls' := [false, true, false, true, true, false, false, false]) rfl rfl ?_ .nil))
                          · skip
                            refine gs_val (val_loadA kag22 rfl (sees_mem (by repeat (first | exact .head _ | refine .tail _ ?_ | refine List.mem_append_right _ ?_))) rfl rfl) rfl rfl rfl ?_
                            refine gx_env (F := [(0, _), (1, _), (2, _), (3, _), (4, _), (5, _), (6, _), (7, _), (8, _), (10, _), (20, _), (21, _), (23, _)]) (.cons rfl (.cons rfl (.cons rfl (.cons rfl (.cons rfl (.cons rfl (.cons rfl (.cons rfl (.cons rfl (.cons rfl (.cons rfl (.cons rfl (.cons rfl .nil))))))))))))) (gx_perm (by first | exact .refl _ | (repeat (first | exact .refl _ | refine perm_take (by first | exact .head | exact .tail .head | exact .tail (.tail .head) | exact .tail (.tail (.tail .head)) | exact .tail (.tail (.tail (.tail .head))) | exact .tail (.tail (.tail (.tail (.tail .head))))) ?_))) (hD4  True.intro))
                          · skip
                            refine gs_val (val_loadA kag22 rfl (sees_mem (by repeat (first | exact .head _ | refine .tail _ ?_ | refine List.mem_append_right _ ?_))) rfl rfl) rfl rfl rfl ?_
                            refine gx_env (F := [(0, _), (1, _), (2, _), (3, _), (4, _), (5, _), (6, _), (7, _), (8, _), (10, _), (21, _), (23, _), (24, _)]) (.cons rfl (.cons rfl (.cons rfl (.cons rfl (.cons rfl (.cons rfl (.cons rfl (.cons rfl (.cons rfl (.cons rfl (.cons rfl (.cons rfl (.cons rfl .nil))))))))))))) (gx_perm (by first | exact .refl _ | (repeat (first | exact .refl _ | refine perm_take (by first | exact .head | exact .tail .head | exact .tail (.tail .head) | exact .tail (.tail (.tail .head)) | exact .tail (.tail (.tail (.tail .head))) | exact .tail (.tail (.tail (.tail (.tail .head))))) ?_))) (hD7  True.intro))
                      · rintro  _
                        refine ga_branch (rs := [1, 3]) (by kernel_rfl) rfl (.cons (ls' := [true, true, false, false, true, false, false, false]) rfl rfl ?_ (.cons (ls' := [true, false, false, true, true, false, false, false]) rfl rfl ?_ .nil))
                        · skip
                          refine gs_val (val_loadA kag22 rfl (sees_mem (by repeat (first | exact .head _ | refine .tail _ ?_ | refine List.mem_append_right _ ?_))) rfl rfl) rfl rfl rfl ?_
                          refine gx_env (F := [(0, _), (1, _), (2, _), (3, _), (4, _), (5, _), (6, _), (7, _), (8, _), (10, _), (20, _), (21, _), (24, _)]) (.cons rfl (.cons rfl (.cons rfl (.cons rfl (.cons rfl (.cons rfl (.cons rfl (.cons rfl (.cons rfl (.cons rfl (.cons rfl (.cons rfl (.cons rfl .nil))))))))))))) (gx_perm (by first | exact .refl _ | (repeat (first | exact .refl _ | refine perm_take (by first | exact .head | exact .tail .head | exact .tail (.tail .head) | exact .tail (.tail (.tail .head)) | exact .tail (.tail (.tail (.tail .head))) | exact .tail (.tail (.tail (.tail (.tail .head))))) ?_))) (hD5  True.intro))
                        · skip
                          refine gs_val (val_loadA kag22 rfl (sees_mem (by repeat (first | exact .head _ | refine .tail _ ?_ | refine List.mem_append_right _ ?_))) rfl rfl) rfl rfl rfl ?_
                          refine gx_env (F := [(0, _), (1, _), (2, _), (3, _), (4, _), (5, _), (6, _), (7, _), (8, _), (10, _), (20, _), (23, _), (24, _)]) (.cons rfl (.cons rfl (.cons rfl (.cons rfl (.cons rfl (.cons rfl (.cons rfl (.cons rfl (.cons rfl (.cons rfl (.cons rfl (.cons rfl (.cons rfl .nil))))))))))))) (gx_perm (by first | exact .refl _ | (repeat (first | exact .refl _ | refine perm_take (by first | exact .head | exact .tail .head | exact .tail (.tail .head) | exact .tail (.tail (.tail .head)) | exact .tail (.tail (.tail (.tail .head))) | exact .tail (.tail (.tail (.tail (.tail .head))))) ?_))) (hD6  True.intro))
                    · rintro  _
                      refine ga_branch (rs := [1, 4]) (by kernel_rfl) rfl (.cons (ls' := [true, true, false, true, false, false, false, false]) rfl rfl ?_ (.cons (ls' := [true, false, false, true, true, false, false, false]) rfl rfl ?_ .nil))
                      · skip
                        refine gs_val (val_loadA kag22 rfl (sees_mem (by repeat (first | exact .head _ | refine .tail _ ?_ | refine List.mem_append_right _ ?_))) rfl rfl) rfl rfl rfl ?_
                        refine gx_env (F := [(0, _), (1, _), (2, _), (3, _), (4, _), (5, _), (6, _), (7, _), (8, _), (10, _), (20, _), (21, _), (23, _)]) (.cons rfl (.cons rfl (.cons rfl (.cons rfl (.cons rfl (.cons rfl (.cons rfl (.cons rfl (.cons rfl (.cons rfl (.cons rfl (.cons rfl (.cons rfl .nil))))))))))))) (gx_perm (by first | exact .refl _ | (repeat (first | exact .refl _ | refine perm_take (by first | exact .head | exact .tail .head | exact .tail (.tail .head) | exact .tail (.tail (.tail .head)) | exact .tail (.tail (.tail (.tail .head))) | exact .tail (.tail (.tail (.tail (.tail .head))))) ?_))) (hD4  True.intro))
                      · skip
                        refine gs_val (val_loadA kag22 rfl (sees_mem (by repeat (first | exact .head _ | refine .tail _ ?_ | refine List.mem_append_right _ ?_))) rfl rfl) rfl rfl rfl ?_
                        refine gx_env (F := [(0, _), (1, _), (2, _), (3, _), (4, _), (5, _), (6, _), (7, _), (8, _), (10, _), (20, _), (23, _), (24, _)]) (.cons rfl (.cons rfl (.cons rfl (.cons rfl (.cons rfl (.cons rfl (.cons rfl (.cons rfl (.cons rfl (.cons rfl (.cons rfl (.cons rfl (.cons rfl .nil))))))))))))) (gx_perm (by first | exact .refl _ | (repeat (first | exact .refl _ | refine perm_take (by first | exact .head | exact .tail .head | exact .tail (.tail .head) | exact .tail (.tail (.tail .head)) | exact .tail (.tail (.tail (.tail .head))) | exact .tail (.tail (.tail (.tail (.tail .head))))) ?_))) (hD6  True.intro))
                  · rintro  _
                    refine ga_branch (rs := [2, 3, 4]) (by kernel_rfl) rfl (.cons (ls' := [true, true, true, false, false, false, false, false]) rfl rfl ?_ (.cons (ls' := [true, true, false, true, false, false, false, false]) rfl rfl ?_ (.cons (ls' := [true, true, false, false, true, false, false, false]) rfl rfl ?_ .nil)))
                    · skip
                      refine gs_makes (enters kcall64 (.cons rfl (.cons rfl .nil))) (sign_spec s a) rfl rfl rfl (fun _ _ => trivial) (fun ⟨ba22, c22, N22⟩ h22 => ?_)
                      refine ga_branch (rs := [3, 4]) (by kernel_rfl) rfl (.cons (ls' := [true, true, true, true, false, false, false, false]) rfl rfl ?_ (.cons (ls' := [true, true, true, false, true, false, false, false]) rfl rfl ?_ .nil))
                      · skip
                        refine gs_val (val_loadA kag22 rfl (sees_mem (by repeat (first | exact .head _ | refine .tail _ ?_ | refine List.mem_append_right _ ?_))) rfl rfl) rfl rfl rfl ?_
                        refine gx_env (F := [(0, _), (1, _), (2, _), (3, _), (4, _), (5, _), (6, _), (7, _), (8, _), (10, _), (20, _), (21, _), (22, _), (23, _)]) (.cons rfl (.cons rfl (.cons rfl (.cons rfl (.cons rfl (.cons rfl (.cons rfl (.cons rfl (.cons rfl (.cons rfl (.cons rfl (.cons rfl (.cons rfl (.cons rfl .nil)))))))))))))) (gx_perm (by first | exact .refl _ | (repeat (first | exact .refl _ | refine perm_take (by first | exact .head | exact .tail .head | exact .tail (.tail .head) | exact .tail (.tail (.tail .head)) | exact .tail (.tail (.tail (.tail .head))) | exact .tail (.tail (.tail (.tail (.tail .head))))) ?_))) (hD1 ba22 c22 N22 (And.intro h22 True.intro)))
                      · skip
                        refine gs_val (val_loadA kag22 rfl (sees_mem (by repeat (first | exact .head _ | refine .tail _ ?_ | refine List.mem_append_right _ ?_))) rfl rfl) rfl rfl rfl ?_
                        refine gx_env (F := [(0, _), (1, _), (2, _), (3, _), (4, _), (5, _), (6, _), (7, _), (8, _), (10, _), (20, _), (21, _), (22, _), (24, _)]) (.cons rfl (.cons rfl (.cons rfl (.cons rfl (.cons rfl (.cons rfl (.cons rfl (.cons rfl (.cons rfl (.cons rfl (.cons rfl (.cons rfl (.cons rfl (.cons rfl .nil)))))))))))))) (gx_perm (by first | exact .refl _ | (repeat (first | exact .refl _ | refine perm_take (by first | exact .head | exact .tail .head | exact .tail (.tail .head) | exact .tail (.tail (.tail .head)) | exact .tail (.tail (.tail (.tail .head))) | exact .tail (.tail (.tail (.tail (.tail .head))))) ?_))) (hD2 ba22 c22 N22 (And.intro h22 True.intro)))
                    · skip
                      refine gs_val (val_loadA kag22 rfl (sees_mem (by repeat (first | exact .head _ | refine .tail _ ?_ | refine List.mem_append_right _ ?_))) rfl rfl) rfl rfl rfl ?_
                      refine gx_env (F := [(0, _), (1, _), (2, _), (3, _), (4, _), (5, _), (6, _), (7, _), (8, _), (10, _), (20, _), (21, _), (23, _)]) (.cons rfl (.cons rfl (.cons rfl (.cons rfl (.cons rfl (.cons rfl (.cons rfl (.cons rfl (.cons rfl (.cons rfl (.cons rfl (.cons rfl (.cons rfl .nil))))))))))))) (gx_perm (by first | exact .refl _ | (repeat (first | exact .refl _ | refine perm_take (by first | exact .head | exact .tail .head | exact .tail (.tail .head) | exact .tail (.tail (.tail .head)) | exact .tail (.tail (.tail (.tail .head))) | exact .tail (.tail (.tail (.tail (.tail .head))))) ?_))) (hD4  True.intro))
                    · skip
                      refine gs_val (val_loadA kag22 rfl (sees_mem (by repeat (first | exact .head _ | refine .tail _ ?_ | refine List.mem_append_right _ ?_))) rfl rfl) rfl rfl rfl ?_
                      refine gx_env (F := [(0, _), (1, _), (2, _), (3, _), (4, _), (5, _), (6, _), (7, _), (8, _), (10, _), (20, _), (21, _), (24, _)]) (.cons rfl (.cons rfl (.cons rfl (.cons rfl (.cons rfl (.cons rfl (.cons rfl (.cons rfl (.cons rfl (.cons rfl (.cons rfl (.cons rfl (.cons rfl .nil))))))))))))) (gx_perm (by first | exact .refl _ | (repeat (first | exact .refl _ | refine perm_take (by first | exact .head | exact .tail .head | exact .tail (.tail .head) | exact .tail (.tail (.tail .head)) | exact .tail (.tail (.tail (.tail .head))) | exact .tail (.tail (.tail (.tail (.tail .head))))) ?_))) (hD5  True.intro))
                · rintro  _
                  refine ga_branch (rs := [0]) (by kernel_rfl) rfl (.cons (ls' := [true, true, false, true, true, false, false, false]) rfl rfl ?_ .nil)
                  refine gs_val (val_loadA kag22 rfl (sees_mem (by repeat (first | exact .head _ | refine .tail _ ?_ | refine List.mem_append_right _ ?_))) rfl rfl) rfl rfl rfl ?_
                  refine gx_env (F := [(0, _), (1, _), (2, _), (3, _), (4, _), (5, _), (6, _), (7, _), (8, _), (10, _), (20, _), (21, _), (23, _), (24, _)]) (.cons rfl (.cons rfl (.cons rfl (.cons rfl (.cons rfl (.cons rfl (.cons rfl (.cons rfl (.cons rfl (.cons rfl (.cons rfl (.cons rfl (.cons rfl (.cons rfl .nil)))))))))))))) (gx_perm (by first | exact .refl _ | (repeat (first | exact .refl _ | refine perm_take (by first | exact .head | exact .tail .head | exact .tail (.tail .head) | exact .tail (.tail (.tail .head)) | exact .tail (.tail (.tail (.tail .head))) | exact .tail (.tail (.tail (.tail (.tail .head))))) ?_))) (hD3  True.intro))
              · rintro  _
                refine ga_branch (rs := [1]) (by kernel_rfl) rfl (.cons (ls' := [true, true, false, true, true, false, false, false]) rfl rfl ?_ .nil)
                refine gs_val (val_loadA kag22 rfl (sees_mem (by repeat (first | exact .head _ | refine .tail _ ?_ | refine List.mem_append_right _ ?_))) rfl rfl) rfl rfl rfl ?_
                refine gx_env (F := [(0, _), (1, _), (2, _), (3, _), (4, _), (5, _), (6, _), (7, _), (8, _), (10, _), (20, _), (21, _), (23, _), (24, _)]) (.cons rfl (.cons rfl (.cons rfl (.cons rfl (.cons rfl (.cons rfl (.cons rfl (.cons rfl (.cons rfl (.cons rfl (.cons rfl (.cons rfl (.cons rfl (.cons rfl .nil)))))))))))))) (gx_perm (by first | exact .refl _ | (repeat (first | exact .refl _ | refine perm_take (by first | exact .head | exact .tail .head | exact .tail (.tail .head) | exact .tail (.tail (.tail .head)) | exact .tail (.tail (.tail (.tail .head))) | exact .tail (.tail (.tail (.tail (.tail .head))))) ?_))) (hD3  True.intro))
            · rintro  _
              refine ga_branch (rs := [2, 3]) (by kernel_rfl) rfl (.cons (ls' := [true, true, true, false, true, false, false, false]) rfl rfl ?_ (.cons (ls' := [true, true, false, true, true, false, false, false]) rfl rfl ?_ .nil))
              · skip
                refine gs_makes (enters kcall64 (.cons rfl (.cons rfl .nil))) (sign_spec s a) rfl rfl rfl (fun _ _ => trivial) (fun ⟨ba22, c22, N22⟩ h22 => ?_)
                refine gx_env (F := [(0, _), (1, _), (2, _), (3, _), (4, _), (5, _), (6, _), (7, _), (8, _), (10, _), (20, _), (21, _), (22, _), (24, _)]) (.cons rfl (.cons rfl (.cons rfl (.cons rfl (.cons rfl (.cons rfl (.cons rfl (.cons rfl (.cons rfl (.cons rfl (.cons rfl (.cons rfl (.cons rfl (.cons rfl .nil)))))))))))))) (gx_perm (by first | exact .refl _ | (repeat (first | exact .refl _ | refine perm_take (by first | exact .head | exact .tail .head | exact .tail (.tail .head) | exact .tail (.tail (.tail .head)) | exact .tail (.tail (.tail (.tail .head))) | exact .tail (.tail (.tail (.tail (.tail .head))))) ?_))) (hD2 ba22 c22 N22 (And.intro h22 True.intro)))
              · skip
                refine gs_val (val_loadA kag22 rfl (sees_mem (by repeat (first | exact .head _ | refine .tail _ ?_ | refine List.mem_append_right _ ?_))) rfl rfl) rfl rfl rfl ?_
                refine gx_env (F := [(0, _), (1, _), (2, _), (3, _), (4, _), (5, _), (6, _), (7, _), (8, _), (10, _), (20, _), (21, _), (23, _), (24, _)]) (.cons rfl (.cons rfl (.cons rfl (.cons rfl (.cons rfl (.cons rfl (.cons rfl (.cons rfl (.cons rfl (.cons rfl (.cons rfl (.cons rfl (.cons rfl (.cons rfl .nil)))))))))))))) (gx_perm (by first | exact .refl _ | (repeat (first | exact .refl _ | refine perm_take (by first | exact .head | exact .tail .head | exact .tail (.tail .head) | exact .tail (.tail (.tail .head)) | exact .tail (.tail (.tail (.tail .head))) | exact .tail (.tail (.tail (.tail (.tail .head))))) ?_))) (hD3  True.intro))
          · rintro  _
            refine ga_branch (rs := [2, 4]) (by kernel_rfl) rfl (.cons (ls' := [true, true, true, true, false, false, false, false]) rfl rfl ?_ (.cons (ls' := [true, true, false, true, true, false, false, false]) rfl rfl ?_ .nil))
            · skip
              refine gs_makes (enters kcall64 (.cons rfl (.cons rfl .nil))) (sign_spec s a) rfl rfl rfl (fun _ _ => trivial) (fun ⟨ba22, c22, N22⟩ h22 => ?_)
              refine gx_env (F := [(0, _), (1, _), (2, _), (3, _), (4, _), (5, _), (6, _), (7, _), (8, _), (10, _), (20, _), (21, _), (22, _), (23, _)]) (.cons rfl (.cons rfl (.cons rfl (.cons rfl (.cons rfl (.cons rfl (.cons rfl (.cons rfl (.cons rfl (.cons rfl (.cons rfl (.cons rfl (.cons rfl (.cons rfl .nil)))))))))))))) (gx_perm (by first | exact .refl _ | (repeat (first | exact .refl _ | refine perm_take (by first | exact .head | exact .tail .head | exact .tail (.tail .head) | exact .tail (.tail (.tail .head)) | exact .tail (.tail (.tail (.tail .head))) | exact .tail (.tail (.tail (.tail (.tail .head))))) ?_))) (hD1 ba22 c22 N22 (And.intro h22 True.intro)))
            · skip
              refine gs_val (val_loadA kag22 rfl (sees_mem (by repeat (first | exact .head _ | refine .tail _ ?_ | refine List.mem_append_right _ ?_))) rfl rfl) rfl rfl rfl ?_
              refine gx_env (F := [(0, _), (1, _), (2, _), (3, _), (4, _), (5, _), (6, _), (7, _), (8, _), (10, _), (20, _), (21, _), (23, _), (24, _)]) (.cons rfl (.cons rfl (.cons rfl (.cons rfl (.cons rfl (.cons rfl (.cons rfl (.cons rfl (.cons rfl (.cons rfl (.cons rfl (.cons rfl (.cons rfl (.cons rfl .nil)))))))))))))) (gx_perm (by first | exact .refl _ | (repeat (first | exact .refl _ | refine perm_take (by first | exact .head | exact .tail .head | exact .tail (.tail .head) | exact .tail (.tail (.tail .head)) | exact .tail (.tail (.tail (.tail .head))) | exact .tail (.tail (.tail (.tail (.tail .head))))) ?_))) (hD3  True.intro))
        · rintro  _
          refine ga_branch (rs := [2]) (by kernel_rfl) rfl (.cons (ls' := [true, true, true, true, true, false, false, false]) rfl rfl ?_ .nil)
          refine gs_makes (enters kcall64 (.cons rfl (.cons rfl .nil))) (sign_spec s a) rfl rfl rfl (fun _ _ => trivial) (fun ⟨ba22, c22, N22⟩ h22 => ?_)
          refine gx_env (F := [(0, _), (1, _), (2, _), (3, _), (4, _), (5, _), (6, _), (7, _), (8, _), (10, _), (20, _), (21, _), (22, _), (23, _), (24, _)]) (.cons rfl (.cons rfl (.cons rfl (.cons rfl (.cons rfl (.cons rfl (.cons rfl (.cons rfl (.cons rfl (.cons rfl (.cons rfl (.cons rfl (.cons rfl (.cons rfl (.cons rfl .nil))))))))))))))) (gx_perm (by first | exact .refl _ | (repeat (first | exact .refl _ | refine perm_take (by first | exact .head | exact .tail .head | exact .tail (.tail .head) | exact .tail (.tail (.tail .head)) | exact .tail (.tail (.tail (.tail .head))) | exact .tail (.tail (.tail (.tail (.tail .head))))) ?_))) (hD0 ba22 c22 N22 (And.intro h22 True.intro)))
      · rintro ba22 c22 N22 ⟨h22, _⟩
        refine ga_branch (rs := [3]) (by kernel_rfl) rfl (.cons (ls' := [true, true, true, true, true, false, false, false]) rfl rfl ?_ .nil)
        refine gs_val (val_loadA kag22 rfl (sees_mem (by repeat (first | exact .head _ | refine .tail _ ?_ | refine List.mem_append_right _ ?_))) rfl rfl) rfl rfl rfl ?_
        refine gx_env (F := [(0, _), (1, _), (2, _), (3, _), (4, _), (5, _), (6, _), (7, _), (8, _), (10, _), (20, _), (21, _), (22, _), (23, _), (24, _)]) (.cons rfl (.cons rfl (.cons rfl (.cons rfl (.cons rfl (.cons rfl (.cons rfl (.cons rfl (.cons rfl (.cons rfl (.cons rfl (.cons rfl (.cons rfl (.cons rfl (.cons rfl .nil))))))))))))))) (gx_perm (by first | exact .refl _ | (repeat (first | exact .refl _ | refine perm_take (by first | exact .head | exact .tail .head | exact .tail (.tail .head) | exact .tail (.tail (.tail .head)) | exact .tail (.tail (.tail (.tail .head))) | exact .tail (.tail (.tail (.tail (.tail .head))))) ?_))) (hD0 ba22 c22 N22 (And.intro h22 True.intro)))
    · rintro ba22 c22 N22 ⟨h22, _⟩
      refine ga_branch (rs := [4]) (by kernel_rfl) rfl (.cons (ls' := [true, true, true, true, true, false, false, false]) rfl rfl ?_ .nil)
      refine gs_val (val_loadA kag22 rfl (sees_mem (by repeat (first | exact .head _ | refine .tail _ ?_ | refine List.mem_append_right _ ?_))) rfl rfl) rfl rfl rfl ?_
      refine gx_env (F := [(0, _), (1, _), (2, _), (3, _), (4, _), (5, _), (6, _), (7, _), (8, _), (10, _), (20, _), (21, _), (22, _), (23, _), (24, _)]) (.cons rfl (.cons rfl (.cons rfl (.cons rfl (.cons rfl (.cons rfl (.cons rfl (.cons rfl (.cons rfl (.cons rfl (.cons rfl (.cons rfl (.cons rfl (.cons rfl (.cons rfl .nil))))))))))))))) (gx_perm (by first | exact .refl _ | (repeat (first | exact .refl _ | refine perm_take (by first | exact .head | exact .tail .head | exact .tail (.tail .head) | exact .tail (.tail (.tail .head)) | exact .tail (.tail (.tail (.tail .head))) | exact .tail (.tail (.tail (.tail (.tail .head))))) ?_))) (hD0 ba22 c22 N22 (And.intro h22 True.intro)))
  · rintro ba22 c22 N22 ⟨h22, _⟩
    refine ga_branch (rs := [5]) (by kernel_rfl) rfl (.cons (ls' := [true, true, true, true, true, true, false, false]) rfl rfl ?_ .nil)
    refine gs_makes (enters kcall64 (.cons rfl (.cons rfl .nil))) (sign_spec s b) rfl rfl rfl (fun _ _ => trivial) (fun ⟨ba25, c25, N25⟩ h25 => ?_)
    refine ga_take (i := 6) (ls' := [true, true, true, true, true, true, true, false]) rfl (by kernel_rfl) rfl (fun _ _ _ => val_assign rfl) rfl rfl rfl ?_
    refine ga_take (i := 7) (ls' := [true, true, true, true, true, true, true, true]) rfl (by kernel_rfl) rfl (fun _ _ _ => val_assign rfl) rfl rfl rfl ?_
    refine ga_done (by kernel_rfl) ?_
    refine gk_seq ?_
    refine gc_seq ?_
    refine gc_seq ?_
    refine gc_region ?_
    refine gl_cons (gs_val (val_move rfl) rfl rfl rfl ?_)
    refine gl_cons (gs_val (val_lenSli ksl37 rfl) rfl rfl rfl ?_)
    refine gl_cons (gs_val (val_no (val_neq rfl rfl) (fun h => h rfl)) rfl rfl rfl ?_)
    refine gl_cons (gs_val (val_move rfl) rfl rfl rfl ?_)
    refine gl_cons (gs_val (val_move rfl) rfl rfl rfl ?_)
    refine gl_cons (gs_val (val_lenSli ksl37 rfl) rfl rfl rfl ?_)
    refine gl_cons (gs_val (val_no (val_neq rfl rfl) (fun h => h rfl)) rfl rfl rfl ?_)
    refine gl_cons (gs_val (val_pick_f rfl rfl) rfl rfl rfl ?_)
    refine gl_nil ?_
    refine gk_seq ?_
    refine gc_false rfl ?_
    refine gc_skip ?_
    refine gk_seq ?_
    refine gc_seq ?_
    refine gc_region ?_
    refine gl_cons (gs_val (val_assign rfl) rfl rfl rfl ?_)
    refine gl_nil ?_
    refine gk_seq ?_
    refine gc_seq ?_
    refine gc_seq ?_
    refine gc_region ?_
    refine gl_cons (gs_val (val_assign rfl) rfl rfl rfl ?_)
    refine gl_nil ?_
    refine gk_seq ?_
    refine gc_block ?_
    refine gc_loop (σ := Nat × Nat × List UInt8 × Option Addr × Nat × List Ent) (I := fun v => v.1 ≤ 18 ∧ v.2.1 < 4294967296 ∧ v.2.2.1.length = 8 * v.1 ∧ Own 5 1 v.2.2.2.1 (8 * v.1) v.2.2.2.2.1 (v.2.2.1.map U8) v.2.2.2.2.2) (μ := fun v => 18 - v.1) (EI := fun v => [(4, .int .u32 (v.2.1 : Int)), (13, .slice v.2.2.2.1 (8 * v.1) v.2.2.2.2.1), (14, I64 (v.1 : Int)), (11, .slice ba22 144 c22), (12, .slice ba25 144 c25), (5, .pointer (some ⟨b5, 0, none⟩)), (8, .pointer (some ⟨b8, 0, none⟩)), (10, .bool false)]) (LI := fun v => v.2.2.2.2.2 ++ (N25 ++ (N22 ++ [⟨b8, .cells (digL m).toArray 22 (0, 0)⟩, ⟨b7, .cells (digL b).toArray 22 (0, 0)⟩, ⟨b6, .cells (digL a).toArray 22 (0, 0)⟩, ⟨b5, .cells (digL s).toArray 22 (0, 0)⟩]))) (0, w1, [], none, 0, []) ?_ ?_ ?_ ?_
    · exact ⟨Nat.zero_le _, by show w1 < 4294967296; omega, rfl, .nil⟩
    · exact (.cons rfl (.cons rfl (.cons rfl (.cons rfl (.cons rfl (.cons rfl (.cons rfl (.cons rfl .nil))))))))
    · exact fun _ h => h
    · intro ⟨k, w, l, bx, cx, N⟩ ⟨hk18, hw, hll, hown⟩
      dsimp only
      have hk18 : k ≤ 18 := hk18
      have hw : w < 4294967296 := hw
      have hll : l.length = 8 * k := hll
      have hown : Own 5 1 bx (8 * k) cx (l.map U8) N := hown
      refine gc_seq ?_
      refine gc_seq ?_
      refine gc_region ?_
      refine gl_cons (gs_val (val_move rfl) rfl rfl rfl ?_)
      refine gl_cons (gs_val (val_lss rfl rfl) rfl rfl rfl ?_)
      refine gl_nil ?_
      refine gk_seq ?_
      refine gc_if rfl (fun hk => ?_) (fun hk => ?_)
      · have hk : k < 18 := by omega
        refine gc_skip ?_
        refine gk_seq ?_
        refine gc_seq ?_
        refine gc_block ?_
        refine gc_seq ?_
        refine gc_region ?_
        refine gl_cons (gs_val (val_move rfl) rfl rfl rfl ?_)
        refine gl_cons (gs_val (val_assign rfl) rfl rfl rfl ?_)
        refine gl_nil ?_
        refine gk_seq ?_
        refine gc_seq ?_
        refine gc_seq ?_
        refine gc_region ?_
        refine gl_cons (gs_val (val_move rfl) rfl rfl rfl ?_)
        refine gl_cons (gs_val (val_rem32 (k := 2) rfl rfl rfl (by decide)) rfl rfl rfl ?_)
        refine gl_cons (gs_val (val_eql rfl rfl) rfl rfl rfl ?_)
        refine gl_nil ?_
        refine gk_seq ?_
        refine gc_if rfl (fun h41 => ?_) (fun h41 => ?_)
        · obtain ⟨q, hq⟩ : ∃ q : BitVec 64, q = signW s b k := ⟨_, rfl⟩
          refine gc_region ?_
          refine gl_cons (gs_val (val_move rfl) rfl rfl rfl ?_)
          refine gl_cons (gs_val (val_assign rfl) rfl rfl rfl ?_)
          refine gl_nil ?_
          refine gk_seq ?_
          refine gc_seq ?_
          refine gc_region ?_
          refine gl_cons (gs_val (val_move rfl) rfl rfl rfl ?_)
          refine gl_cons (gs_val (val_quo32 (k := 2) rfl rfl rfl (by decide) hw) rfl rfl rfl ?_)
          refine gl_cons (gs_val (val_assign rfl) rfl rfl rfl ?_)
          refine gl_nil ?_
          refine gk_seq ?_
          refine gc_region ?_
          refine gl_cons (gs_val (val_move rfl) rfl rfl rfl ?_)
          refine gl_cons (gs_val (val_move rfl) rfl rfl rfl ?_)
          refine gl_cons (gs_val (val_move rfl) rfl rfl rfl ?_)
          refine gl_cons (gs_val (val_mulI rfl rfl (by omega)) rfl rfl rfl ?_)
          refine gl_cons (gs_val (val_move rfl) rfl rfl rfl ?_)
          refine gl_cons (gs_val (val_mulI rfl rfl (by omega)) rfl rfl rfl ?_)
          refine gl_cons (gs_val (val_addI rfl rfl (by omega)) rfl rfl rfl ?_)
          refine gl_cons (gs_val (val_sliceLH (l := 8 * k) (h := 8 * k + 8) ksl37 rfl rfl rfl (by omega) (by omega) (by have := h22.cap; have := h25.cap; dsimp only at *; omega)) rfl rfl rfl ?_)
          refine gl_cons (gs_append ksl37 kze5 rfl rfl rfl rfl rfl rfl (hown) (fun _ => by first | exact .here | exact .headR | exact .app | exact .tail .here | exact .tail .headR | exact .tail .app | exact .tail (.tail .here) | exact .tail (.tail .headR) | exact .tail (.tail .app) | exact .tail (.tail (.tail .here)) | exact .tail (.tail (.tail .headR)) | exact .tail (.tail (.tail .app)) | exact .tail (.tail (.tail (.tail .here))) | exact .tail (.tail (.tail (.tail .headR))) | exact .tail (.tail (.tail (.tail .app))) | exact .tail (.tail (.tail (.tail (.tail .here)))) | exact .tail (.tail (.tail (.tail (.tail .headR)))) | exact .tail (.tail (.tail (.tail (.tail .app)))) | exact .appr .here | exact .appr .headR | exact .appr .app | exact .tail (.appr .here) | exact .tail (.appr .headR) | exact .tail (.appr .app) | exact .tail (.tail (.appr .here)) | exact .tail (.tail (.appr .headR)) | exact .tail (.tail (.appr .app)) | exact .appr (.tail .here) | exact .appr (.tail .headR) | exact .appr (.tail .app) | exact .appr (.tail (.tail .here)) | exact .appr (.tail (.tail .headR)) | exact .appr (.tail (.tail .app)) | exact .appr (.appr .here) | exact .appr (.appr .headR) | exact .appr (.appr .app) | exact .tail (.appr (.appr .here)) | exact .tail (.appr (.appr .headR)) | exact .tail (.appr (.appr .app)) | exact .appr (.appr (.tail .here)) | exact .appr (.appr (.tail .headR)) | exact .appr (.appr (.tail .app)) | exact .appr (.appr (.appr .here)) | exact .appr (.appr (.appr .headR)) | exact .appr (.appr (.appr .app))) ((by first | exact brings_slice ksl37 ((((h22.look (by repeat (first | exact .here | exact .headR | exact .app | refine .tail ?_ | refine .appr ?_))).sl (cap := c22) (l := 8 * k) (size := 1) (by rw [List.length_map, sign_len]; have := h22.cap; dsimp only at this; omega)).take 8).cast (ds := (digB q).map U8) (by rw [hq]; exact sign_part s a k hk)) (by show 8 = _; omega) (one_dig _) | exact brings_slice ksl37 ((((h25.look (by repeat (first | exact .here | exact .headR | exact .app | refine .tail ?_ | refine .appr ?_))).sl (cap := c25) (l := 8 * k) (size := 1) (by rw [List.length_map, sign_len]; have := h25.cap; dsimp only at this; omega)).take 8).cast (ds := (digB q).map U8) (by rw [hq]; exact sign_part s b k hk)) (by show 8 = _; omega) (one_dig _))) (by omega) (fun ba53 c53 N53 hown53 => ?_))
          have e53 : 8 * k + (8 * k + 8 - 8 * k) = 8 * (k + 1) := by omega
          rw [e53] at hown53 ⊢
          refine gl_cons (gs_val (val_assign rfl) rfl rfl rfl ?_)
          refine gl_nil ?_
          refine gk_block ?_
          refine gk_seq ?_
          refine gc_region ?_
          refine gl_cons (gs_val (val_move rfl) rfl rfl rfl ?_)
          refine gl_cons (gs_val (val_addI rfl rfl (by omega)) rfl rfl rfl ?_)
          refine gl_cons (gs_val (val_assign rfl) rfl rfl rfl ?_)
          refine gl_nil ?_
          refine gk_again (k + 1, w / 2, l ++ digB q, ba53, c53, N53) ?_ ?_ ?_ ?_
          · exact ⟨by show k + 1 ≤ 18; omega, by show w / 2 < 4294967296; omega, by show (l ++ digB q).length = 8 * (k + 1); rw [List.length_append, hll]; rfl, by show Own 5 1 ba53 (8 * (k + 1)) c53 ((l ++ digB q).map U8) N53; rw [List.map_append]; exact hown53⟩
          · show 18 - (k + 1) < 18 - k; omega
          · exact (.cons (rfl) (.cons (rfl) (.cons (rfl) (.cons (rfl) (.cons (rfl) (.cons (rfl) (.cons (rfl) (.cons (rfl) .nil))))))))
          · exact fun _ h => h
        · obtain ⟨q, hq⟩ : ∃ q : BitVec 64, q = signW s a k := ⟨_, rfl⟩
          refine gc_skip ?_
          refine gk_seq ?_
          refine gc_seq ?_
          refine gc_region ?_
          refine gl_cons (gs_val (val_move rfl) rfl rfl rfl ?_)
          refine gl_cons (gs_val (val_quo32 (k := 2) rfl rfl rfl (by decide) hw) rfl rfl rfl ?_)
          refine gl_cons (gs_val (val_assign rfl) rfl rfl rfl ?_)
          refine gl_nil ?_
          refine gk_seq ?_
          refine gc_region ?_
          refine gl_cons (gs_val (val_move rfl) rfl rfl rfl ?_)
          refine gl_cons (gs_val (val_move rfl) rfl rfl rfl ?_)
          refine gl_cons (gs_val (val_move rfl) rfl rfl rfl ?_)
          refine gl_cons (gs_val (val_mulI rfl rfl (by omega)) rfl rfl rfl ?_)
          refine gl_cons (gs_val (val_move rfl) rfl rfl rfl ?_)
          refine gl_cons (gs_val (val_mulI rfl rfl (by omega)) rfl rfl rfl ?_)
          refine gl_cons (gs_val (val_addI rfl rfl (by omega)) rfl rfl rfl ?_)
          refine gl_cons (gs_val (val_sliceLH (l := 8 * k) (h := 8 * k + 8) ksl37 rfl rfl rfl (by omega) (by omega) (by have := h22.cap; have := h25.cap; dsimp only at *; omega)) rfl rfl rfl ?_)
          refine gl_cons (gs_append ksl37 kze5 rfl rfl rfl rfl rfl rfl (hown) (fun _ => by first | exact .here | exact .headR | exact .app | exact .tail .here | exact .tail .headR | exact .tail .app | exact .tail (.tail .here) | exact .tail (.tail .headR) | exact .tail (.tail .app) | exact .tail (.tail (.tail .here)) | exact .tail (.tail (.tail .headR)) | exact .tail (.tail (.tail .app)) | exact .tail (.tail (.tail (.tail .here))) | exact .tail (.tail (.tail (.tail .headR))) | exact .tail (.tail (.tail (.tail .app))) | exact .tail (.tail (.tail (.tail (.tail .here)))) | exact .tail (.tail (.tail (.tail (.tail .headR)))) | exact .tail (.tail (.tail (.tail (.tail .app)))) | exact .appr .here | exact .appr .headR | exact .appr .app | exact .tail (.appr .here) | exact .tail (.appr .headR) | exact .tail (.appr .app) | exact .tail (.tail (.appr .here)) | exact .tail (.tail (.appr .headR)) | exact .tail (.tail (.appr .app)) | exact .appr (.tail .here) | exact .appr (.tail .headR) | exact .appr (.tail .app) | exact .appr (.tail (.tail .here)) | exact .appr (.tail (.tail .headR)) | exact .appr (.tail (.tail .app)) | exact .appr (.appr .here) | exact .appr (.appr .headR) | exact .appr (.appr .app) | exact .tail (.appr (.appr .here)) | exact .tail (.appr (.appr .headR)) | exact .tail (.appr (.appr .app)) | exact .appr (.appr (.tail .here)) | exact .appr (.appr (.tail .headR)) | exact .appr (.appr (.tail .app)) | exact .appr (.appr (.appr .here)) | exact .appr (.appr (.appr .headR)) | exact .appr (.appr (.appr .app))) ((by first | exact brings_slice ksl37 ((((h22.look (by repeat (first | exact .here | exact .headR | exact .app | refine .tail ?_ | refine .appr ?_))).sl (cap := c22) (l := 8 * k) (size := 1) (by rw [List.length_map, sign_len]; have := h22.cap; dsimp only at this; omega)).take 8).cast (ds := (digB q).map U8) (by rw [hq]; exact sign_part s a k hk)) (by show 8 = _; omega) (one_dig _) | exact brings_slice ksl37 ((((h25.look (by repeat (first | exact .here | exact .headR | exact .app | refine .tail ?_ | refine .appr ?_))).sl (cap := c25) (l := 8 * k) (size := 1) (by rw [List.length_map, sign_len]; have := h25.cap; dsimp only at this; omega)).take 8).cast (ds := (digB q).map U8) (by rw [hq]; exact sign_part s b k hk)) (by show 8 = _; omega) (one_dig _))) (by omega) (fun ba53 c53 N53 hown53 => ?_))
          have e53 : 8 * k + (8 * k + 8 - 8 * k) = 8 * (k + 1) := by omega
          rw [e53] at hown53 ⊢
          refine gl_cons (gs_val (val_assign rfl) rfl rfl rfl ?_)
          refine gl_nil ?_
          refine gk_block ?_
          refine gk_seq ?_
          refine gc_region ?_
          refine gl_cons (gs_val (val_move rfl) rfl rfl rfl ?_)
          refine gl_cons (gs_val (val_addI rfl rfl (by omega)) rfl rfl rfl ?_)
          refine gl_cons (gs_val (val_assign rfl) rfl rfl rfl ?_)
          refine gl_nil ?_
          refine gk_again (k + 1, w / 2, l ++ digB q, ba53, c53, N53) ?_ ?_ ?_ ?_
          · exact ⟨by show k + 1 ≤ 18; omega, by show w / 2 < 4294967296; omega, by show (l ++ digB q).length = 8 * (k + 1); rw [List.length_append, hll]; rfl, by show Own 5 1 ba53 (8 * (k + 1)) c53 ((l ++ digB q).map U8) N53; rw [List.map_append]; exact hown53⟩
          · show 18 - (k + 1) < 18 - k; omega
          · exact (.cons (rfl) (.cons (rfl) (.cons (rfl) (.cons (rfl) (.cons (rfl) (.cons (rfl) (.cons (rfl) (.cons (rfl) .nil))))))))
          · exact fun _ h => h
      · have e : k = 18 := by omega
        subst e
        refine gc_exit ?_
        refine gk_seq_exit ?_
        refine gk_loop_exit ?_
        refine gk_block_exit ?_
        refine gk_seq ?_
        refine gc_seq ?_
        refine gc_region ?_
        refine gl_cons (gs_val (val_loadA kag22 rfl (sees_mem (by repeat (first | exact .head _ | refine .tail _ ?_ | refine List.mem_append_right _ ?_))) rfl rfl) rfl rfl rfl ?_)
        refine gl_cons (gs_val (val_move rfl) rfl rfl rfl ?_)
        refine gl_cons (gs_pure (enters kcall68 (.cons rfl (.cons rfl .nil))) (told_spec bx (8 * 18) cx l hll m hown.cap) rfl rfl rfl (row_of_sees (hown.look (by repeat (first | exact .here | exact .headR | exact .app | refine .tail ?_ | refine .appr ?_)))) ?_)
        refine gl_cons (gs_val (val_move rfl) rfl rfl rfl ?_)
        refine gl_cons (gs_val (val_extract rfl rfl) rfl rfl rfl ?_)
        refine gl_cons (gs_val (val_extract rfl rfl) rfl rfl rfl ?_)
        refine gl_cons (gs_alloc kze24 rfl rfl rfl (fun b16 => ?_))
        refine gl_cons (gs_store ksz24 rfl rfl rfl rfl rfl rfl (by first | exact .head | exact .tail .head | exact .tail (.tail .head) | exact .tail (.tail (.tail .head)) | exact .tail (.tail (.tail (.tail .head))) | exact .tail (.tail (.tail (.tail (.tail .head))))) (by simp) (by first | ((with_reducible refine splice_all _ _ ?_); simp; done) | (simp only [splice, stL, digL, List.take_succ_cons, List.take_zero, List.drop_succ_cons, List.drop_zero, List.length_cons, List.length_nil, Nat.reduceAdd, Nat.reduceMul, Nat.zero_add, Nat.zero_mul, List.cons_append, List.nil_append]; exact rfl)) ?_)
        refine gl_cons (gs_val (val_assign rfl) rfl rfl rfl ?_)
        refine gl_nil ?_
        refine gk_seq ?_
        refine gc_seq ?_
        refine gc_region ?_
        refine gl_cons (gs_val (val_loadA kag22 rfl (sees_mem (by repeat (first | exact .head _ | refine .tail _ ?_ | refine List.mem_append_right _ ?_))) rfl rfl) rfl rfl rfl ?_)
        refine gl_cons (gs_val (val_move rfl) rfl rfl rfl ?_)
        refine gl_cons (gs_pure (enters kcall69 (.cons rfl (.cons rfl .nil))) (rtold_spec bx (8 * 18) cx l hll m hown.cap) rfl rfl rfl (row_of_sees (hown.look (by repeat (first | exact .here | exact .headR | exact .app | refine .tail ?_ | refine .appr ?_)))) ?_)
        refine gl_cons (gs_val (val_move rfl) rfl rfl rfl ?_)
        refine gl_cons (gs_val (val_extract rfl rfl) rfl rfl rfl ?_)
        refine gl_cons (gs_val (val_extract rfl rfl) rfl rfl rfl ?_)
        refine gl_cons (gs_alloc kze22 rfl rfl rfl (fun b18 => ?_))
        refine gl_cons (gs_store ksz22 rfl rfl rfl rfl rfl rfl (by first | exact .head | exact .tail .head | exact .tail (.tail .head) | exact .tail (.tail (.tail .head)) | exact .tail (.tail (.tail (.tail .head))) | exact .tail (.tail (.tail (.tail (.tail .head))))) (by simp) (by first | ((with_reducible refine splice_all _ _ ?_); simp; done) | (simp only [splice, stL, digL, List.take_succ_cons, List.take_zero, List.drop_succ_cons, List.drop_zero, List.length_cons, List.length_nil, Nat.reduceAdd, Nat.reduceMul, Nat.zero_add, Nat.zero_mul, List.cons_append, List.nil_append]; exact rfl)) ?_)
        refine gl_cons (gs_val (val_assign rfl) rfl rfl rfl ?_)
        refine gl_nil ?_
        refine gk_seq ?_
        refine gc_seq ?_
        refine gc_drawAll kmixed (by kernel_rfl) ?_
        refine gq_pure (enters kcall60 .nil) (known05_spec) rfl rfl rfl (fun _ _ => trivial) ?_
        refine gq_val (val_move rfl) rfl rfl rfl ?_
        refine gq_val (val_loadA kag24 rfl (sees_mem (by repeat (first | exact .head _ | refine .tail _ ?_ | refine List.mem_append_right _ ?_))) rfl rfl) rfl rfl rfl ?_
        refine gq_val (val_loadA kag22 rfl (sees_mem (by repeat (first | exact .head _ | refine .tail _ ?_ | refine List.mem_append_right _ ?_))) rfl rfl) rfl rfl rfl ?_
        refine gq_val (val_yes (val_eqlDig kdig24 rfl rfl rfl rfl) rfl) rfl rfl rfl ?_
        refine gq_val (val_pick_t rfl rfl) rfl rfl rfl ?_
        refine gq_val (val_move rfl) rfl rfl rfl ?_
        refine gq_val (val_move rfl) rfl rfl rfl ?_
        refine gq_val (val_move rfl) rfl rfl rfl ?_
        refine gq_val (val_cast (v := .bool true) (val_eqlB kun4 rfl rfl) (congrArg Value.bool (beq_self_eq_true _))) rfl rfl rfl ?_
        refine gq_val (val_pick_t rfl rfl) rfl rfl rfl ?_
        refine gq_val (val_move rfl) rfl rfl rfl ?_
        refine gq_val (val_loadA kag22 rfl (sees_mem (by repeat (first | exact .head _ | refine .tail _ ?_ | refine List.mem_append_right _ ?_))) rfl rfl) rfl rfl rfl ?_
        refine gq_pure (enters kcall61 (.cons rfl .nil)) (public_spec s) rfl rfl rfl (fun _ _ => trivial) ?_
        refine gq_val (val_loadA kag22 rfl (sees_mem (by repeat (first | exact .head _ | refine .tail _ ?_ | refine List.mem_append_right _ ?_))) rfl rfl) rfl rfl rfl ?_
        refine gq_val (val_move rfl) rfl rfl rfl ?_
        refine gq_pure (enters kcall72 (.cons rfl (.cons rfl (.cons rfl .nil)))) (verify_spec bx (8 * 18) cx l hll (onceKey s) m hown.cap) rfl rfl rfl (row_of_sees (hown.look (by repeat (first | exact .here | exact .headR | exact .app | refine .tail ?_ | refine .appr ?_)))) ?_
        refine gq_val (val_loadA kag22 rfl (sees_mem (by repeat (first | exact .head _ | refine .tail _ ?_ | refine List.mem_append_right _ ?_))) rfl rfl) rfl rfl rfl ?_
        refine gq_pure (enters kcall62 (.cons rfl .nil)) (rpublic_spec s) rfl rfl rfl (fun _ _ => trivial) ?_
        refine gq_val (val_loadA kag22 rfl (sees_mem (by repeat (first | exact .head _ | refine .tail _ ?_ | refine List.mem_append_right _ ?_))) rfl rfl) rfl rfl rfl ?_
        refine gq_val (val_move rfl) rfl rfl rfl ?_
        refine gq_pure (enters kcall73 (.cons rfl (.cons rfl (.cons rfl .nil)))) (rverify_spec bx (8 * 18) cx l hll (onceKey s) m hown.cap) rfl rfl rfl (row_of_sees (hown.look (by repeat (first | exact .here | exact .headR | exact .app | refine .tail ?_ | refine .appr ?_)))) ?_
        refine gq_val (val_cast (v := .bool true) (val_eqlB kun4 rfl rfl) (congrArg Value.bool (beq_self_eq_true _))) rfl rfl rfl ?_
        refine gq_val (val_pick_t rfl rfl) rfl rfl rfl ?_
        refine gq_val (val_assign rfl) rfl rfl rfl ?_
        refine gq_nil ?_
        refine gl_nil ?_
        refine gk_seq ?_
        refine gc_ret ?_
        refine gk_ret rfl (resv_tmp rfl .nil) (List.nil_sublist _) ?_
        exact ⟨rfl, rfl⟩

end Go.Proofs.Ythmepionpjkcgaa
