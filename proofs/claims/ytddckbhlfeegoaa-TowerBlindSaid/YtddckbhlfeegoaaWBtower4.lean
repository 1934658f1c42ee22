/- The walk of functions of the program: what each computes, for every input. -/
import Derived.Test.YtddckbhlfeegoaaWBFacts
import Derived.Test.YtddckbhlfeegoaaWBlaw51s
namespace Go.Proofs.Ytddckbhlfeegoaa
open Go Go.Eng
set_option linter.unusedVariables false
set_option linter.unusedSimpArgs false

theorem takeT_spec (bt room : Nat) (al : List App) (L0 : List Ent) (htw : TW 175 70 bt room al L0) (hf : Fit room al) (hr : room ≤ 4096) (h : BitVec 64) (nb : Int) (ba : Option Addr) (n cap : Nat) (l : List UInt8) (hn : l.length = n) : Turns Try.prog 41 ([.pointer (some ⟨bt, 0, none⟩), apV h nb (.slice ba n cap)]).toArray (fun w => Row w (L0.map Ent.b) ba (l.map U8)) L0 (fun s : List Ent => TW 175 70 bt room (takeA room al (h, nb, l)) s) (fun _ => I64 (takeE room al (h, nb, l))) (fun s => s) := by
  have ht0 := htw
  obtain ⟨ml, la, c, mb, clk, rows, NS, NB, rfl, htm, rfl⟩ := htw.get
  subst hn
  have keep : ∀ e : Int, takeE room (ml.map Am.app) (h, nb, l) = e → e ≠ 0 → TW 175 70 bt room (takeA room (ml.map Am.app) (h, nb, l)) (TWL 175 bt room la ml.length c mb clk rows NS NB) := fun e he h0 => by rw [take_err he h0]; exact ht0
  have tt : ∀ w : World, Row w ((TWL 175 bt room la ml.length c mb clk rows NS NB).map Ent.b) ba (l.map U8) → True := fun _ _ => trivial
  by_cases hk : 0 ≤ nb ∧ nb ≤ 1099511627776
  · by_cases h8 : l.length < 8
    · exact turns_mono (turns_of_pure (take_short bt h nb ba l.length cap hk.1 hk.2 h8) tt) (fun _ h => h) (fun _ _ => ⟨_, keep 3 (te3 hk h8) (by decide), by rw [te3 hk h8], rfl⟩)
    · by_cases h9 : 32776 < l.length
      · exact turns_mono (turns_of_pure (take_long bt h nb ba l.length cap hk.1 hk.2 h9) tt) (fun _ h => h) (fun _ _ => ⟨_, keep 5 (te5 hk h9) (by decide), by rw [te5 hk h9], rfl⟩)
      · cases hx : ixA h (ml.map Am.app) with
        | none =>
          have e0 := te_none (room := room) (nb := nb) (l := l) hk (by omega) (by omega) hx
          have hlen := hf.len
          rw [List.length_map] at hlen e0
          by_cases hfull : ml.length = room
          · rw [if_pos hfull] at e0
            exact turns_mono (take_full bt room ml la c mb clk rows NS NB htm h nb ba l.length cap hk.1 hk.2 (by omega) (by omega) hx hfull) tt (fun _ _ => ⟨_, keep 8 e0 (by decide), by rw [e0], rfl⟩)
          · rw [if_neg hfull] at e0
            exact turns_mono (take_new bt room ml la c mb clk rows NS NB htm h nb ba l.length cap l rfl hk.1 hk.2 (by omega) (by omega) hx (by omega) hr) (fun _ h => h) (fun s hs => ⟨s, by rw [ta_none e0 hx]; exact hs, by rw [e0], rfl⟩)
        | some i =>
          have e0 := te_some (room := room) (nb := nb) (l := l) hk (by omega) (by omega) hx
          obtain ⟨hil, hih⟩ := ixA_lt hx
          rw [getD_app ml i hil] at e0
          obtain ⟨lb, rfl⟩ := tw_addr htm hil
          by_cases ho : nb ≤ ml[i].nb
          · rw [if_pos ho] at e0
            exact turns_mono (take_old bt room ml lb c mb clk rows NS NB htm h nb ba l.length cap hk.1 hk.2 (by omega) (by omega) i hil hx ho) tt (fun _ _ => ⟨_, keep 18 e0 (by decide), by rw [e0], rfl⟩)
          · rw [if_neg ho] at e0
            exact turns_mono (take_more bt room ml lb c mb clk rows NS NB htm h nb ba l.length cap l rfl hk.1 hk.2 (by omega) (by omega) i hil hx hih (by omega)) (fun _ h => h) (fun s hs => ⟨s, by rw [ta_some e0 hx]; exact hs, by rw [e0], rfl⟩)
  · exact turns_mono (turns_of_pure (take_num bt h nb ba l.length cap hk) tt) (fun _ h => h) (fun _ _ => ⟨_, keep 2 (te2 hk) (by decide), by rw [te2 hk], rfl⟩)

theorem seeT_spec (bt room : Nat) (al : List App) (L0 : List Ent) (htw : TW 175 70 bt room al L0) (hf : Fit room al) (hr : room ≤ 4096) (d : BitVec 64) (base : Int) : Turns Try.prog 40 ([.pointer (some ⟨bt, 0, none⟩), Dig d, I64 base]).toArray (fun _ => True) L0 (fun s : Option Addr × Nat × List Ent × List Ent => Has s.2.2.1 s.1 ((seeB al d base).map U8) ∧ TW 175 70 bt room al s.2.2.2) (fun s => .tuple #[.slice s.1 (seeB al d base).length s.2.1, .bool (seeV al d base).isSome]) (fun s => s.2.2.1 ++ s.2.2.2) := by
  have ht0 := htw
  obtain ⟨ml, la, c, mb, clk, rows, NS, NB, rfl, htm, rfl⟩ := htw.get
  have no : seeV (ml.map Am.app) d base = none → ∃ t : Option Addr × Nat × List Ent × List Ent, (Has t.2.2.1 t.1 ((seeB (ml.map Am.app) d base).map U8) ∧ TW 175 70 bt room (ml.map Am.app) t.2.2.2) ∧ Value.tuple #[nilS, .bool false] = .tuple #[.slice t.1 (seeB (ml.map Am.app) d base).length t.2.1, .bool (seeV (ml.map Am.app) d base).isSome] ∧ TWL 175 bt room la ml.length c mb clk rows NS NB = t.2.2.1 ++ t.2.2.2 := fun h => by
    refine ⟨(none, 0, [], _), ⟨?_, ht0⟩, ?_, rfl⟩
    · rw [show seeB (ml.map Am.app) d base = [] by unfold seeB; rw [h]; rfl]; exact fun _ _ => sees_nil
    · rw [show seeB (ml.map Am.app) d base = [] by unfold seeB; rw [h]; rfl, h]; rfl
  cases hx : ixA (hintW d) (ml.map Am.app) with
  | none => exact turns_mono (see_none bt room ml la c mb clk rows NS NB htm d base hx) (fun _ h => h) (fun _ _ => no (sv_none hx))
  | some i =>
    obtain ⟨hil, hih⟩ := ixA_lt hx
    obtain ⟨lb, rfl⟩ := tw_addr htm hil
    have hg := getD_app ml i hil
    have hb : ml[i].bl.length ≤ 32776 := hf.box ml[i].app (List.mem_map.2 ⟨_, List.getElem_mem hil, rfl⟩)
    by_cases ho : ml[i].nb ≤ base
    · exact turns_mono (see_low bt room ml lb c mb clk rows NS NB htm d base i hil hx ho) (fun _ h => h) (fun _ _ => no (sv_low hx (by rw [hg]; exact ho)))
    · by_cases he : openE (keyW d) ml[i].bl = 0
      · have hv := sv_yes (g := base) hx (by rw [hg]; exact ho) (by rw [hg]; exact he)
        rw [hg] at hv
        refine turns_mono (see_yes bt room ml lb c mb clk rows NS NB htm d base i hil hx (by omega) (by omega) he) (fun _ h => h) (fun s hs => ⟨(s.1, s.2.1, s.2.2, _), ⟨?_, ht0⟩, ?_, rfl⟩)
        · rw [show seeB (ml.map Am.app) d base = openL (keyW d) ml[i].bl by unfold seeB; rw [hv]; rfl]; exact hs.has
        · rw [show seeB (ml.map Am.app) d base = openL (keyW d) ml[i].bl by unfold seeB; rw [hv]; rfl, hv]; rfl
      · exact turns_mono (see_bad bt room ml lb c mb clk rows NS NB htm d base i hil hx (by omega) (by omega) he) (fun _ h => h) (fun _ _ => no (sv_bad hx (by rw [hg]; exact ho) (by rw [hg]; exact he)))

end Go.Proofs.Ytddckbhlfeegoaa
