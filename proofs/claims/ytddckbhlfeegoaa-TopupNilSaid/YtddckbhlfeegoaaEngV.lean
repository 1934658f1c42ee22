/-
  Engine, part V: towers of chapter 51: rows of appointments, the map of their hints.
-/
import Derived.Test.YtddckbhlfeegoaaEngU
namespace Go.Eng
open Go
set_option linter.unusedVariables false
set_option linter.unusedSimpArgs false
/-! ### rows of equal width -/
theorem flatK_len {α : Type} {f : α → List Value} {k : Nat} (hf : ∀ a, (f a).length = k) : ∀ l : List α, (l.flatMap f).length = l.length * k
  | [] => by simp
  | a :: l => by rw [List.flatMap_cons, List.length_append, hf, flatK_len hf l, List.length_cons, Nat.add_mul]; omega
theorem flatK_drop {α : Type} {f : α → List Value} {k : Nat} (hf : ∀ a, (f a).length = k) : ∀ (l : List α) (m : Nat) (hm : m < l.length), ((l.flatMap f).drop (m * k)).take k = f l[m]
  | a :: l, 0, _ => by rw [List.flatMap_cons, Nat.zero_mul, List.drop_zero, List.take_append_of_le_length (by rw [hf]; exact Nat.le_refl _), List.take_of_length_le (by rw [hf]; exact Nat.le_refl _)]; rfl
  | a :: l, m + 1, hm => by
    rw [List.flatMap_cons, show (m + 1) * k = (f a).length + m * k by rw [hf, Nat.add_mul]; omega, ← List.drop_drop, List.drop_left]
    exact flatK_drop hf l m (by simpa using hm)
theorem flatK_set {α : Type} {f : α → List Value} {k : Nat} (hf : ∀ a, (f a).length = k) : ∀ (l : List α) (m : Nat) (hm : m < l.length) (v : α), splice (l.flatMap f) (m * k) (f v) = (l.set m v).flatMap f
  | a :: l, 0, _, v => by
    unfold splice
    rw [Nat.zero_mul, List.take_zero, List.nil_append, List.set_cons_zero, List.flatMap_cons, List.flatMap_cons, Nat.zero_add, hf v, ← hf a, List.drop_left]
  | a :: l, m + 1, hm, v => by
    have ih := flatK_set hf l m (by simpa using hm) v
    unfold splice at ih ⊢
    rw [List.set_cons_succ, List.flatMap_cons, List.flatMap_cons, ← ih, show (m + 1) * k = (f a).length + m * k by rw [hf, Nat.add_mul]; omega, List.take_append, Nat.add_assoc, List.drop_append]
    simp
    rw [List.drop_eq_nil_of_le (by omega), List.take_of_length_le (by omega), List.nil_append]
/-! ### appointments -/
structure Am where
  h : BitVec 64
  nb : Int
  bl : List UInt8
  ba : Option Addr
  c : Nat
@[reducible] def Am.bx (a : Am) : Value := .slice a.ba a.bl.length a.c
@[reducible] def Am.L (a : Am) : List Value := apL a.h a.nb a.bx
abbrev App := BitVec 64 × Int × List UInt8
@[reducible] def Am.app (a : Am) : App := (a.h, a.nb, a.bl)
def ixA (d : BitVec 64) (al : List App) : Option Nat := al.findIdx? fun a => decide (a.1 = d)
def lookD (d : BitVec 64) (l : List MRow) : Option Value := (findD d l 0).map (·.2)
def Has (N : List Ent) (ba : Option Addr) (cs : List Value) : Prop := ∀ w0 mods, Sees w0 mods N ba cs
theorem Has.sees {N L : List Ent} {ba : Option Addr} {cs : List Value} {w0 : World} {mods : List Nat} (h : Has N ba cs) (hs : ∀ w, Inv w0 mods L w → Inv w0 mods N w) : Sees w0 mods L ba cs := fun w hi => h w0 mods w (hs w hi)
theorem Has.more {N M : List Ent} {ba : Option Addr} {cs : List Value} (h : Has N ba cs) (hs : List.Sublist N M) : Has M ba cs := fun w0 mods => (h.sees fun w hi => hi.sub hs)
theorem Own.has {e size n c : Nat} {ba : Option Addr} {xs : List Value} {N : List Ent} (h : Own e size ba n c xs N) : Has N ba xs := fun w0 mods => h.look .here
structure TWm (e : TypeId) (ml : List Am) (la : Option Addr) (c : Nat) (rows : List MRow) (NS NB : List Ent) : Prop where
  own : Own e 10 la ml.length c (ml.flatMap Am.L) NS
  box : ∀ a ∈ ml, Has NB a.ba (a.bl.map U8) ∧ a.bl.length ≤ a.c
  map : ∀ d, lookD d rows = (ixA d (ml.map Am.app)).map NV
  keys : (rows.map (·.1)).Nodup
@[reducible] def twC (T : TypeId) (bt room : Nat) (la : Option Addr) (n c mb : Nat) : Ent := ⟨bt, .cells ([NV room, .slice la n c, .map (some mb)] : List Value).toArray T (0, 0)⟩
@[reducible] def twM (mb clk : Nat) (rows : List MRow) : Ent := ⟨mb, .map (mapEs rows) clk⟩
@[reducible] def TWL (T : TypeId) (bt room : Nat) (la : Option Addr) (n c mb clk : Nat) (rows : List MRow) (NS NB : List Ent) : List Ent := twC T bt room la n c mb :: twM mb clk rows :: (NS ++ NB)
def TW (T e : TypeId) (bt room : Nat) (al : List App) (L : List Ent) : Prop := ∃ ml la c mb clk rows NS NB, ml.map Am.app = al ∧ TWm e ml la c rows NS NB ∧ L = TWL T bt room la ml.length c mb clk rows NS NB
theorem ap_one (a : Am) : ∀ v ∈ a.L, v.oneCell' = true := fun v hv => by
  simp only [Am.L, apL, List.mem_cons, List.not_mem_nil, or_false] at hv
  rcases hv with rfl | rfl | rfl | rfl | rfl | rfl | rfl | rfl | rfl | rfl <;> rfl
theorem am_len (a : Am) : a.L.length = 10 := rfl
theorem findD_shift (d : BitVec 64) : ∀ (l : List MRow) (i : Nat), (findD d l i).map (·.2) = (findD d l 0).map (·.2)
  | [], i => rfl
  | p :: l, i => by
    unfold findD
    split
    · rfl
    · rw [findD_shift d l (i + 1), findD_shift d l (0 + 1)]
theorem lookD_nil (d : BitVec 64) : lookD d [] = none := rfl
theorem lookD_cons (d : BitVec 64) (p : MRow) (l : List MRow) : lookD d (p :: l) = if d = p.1 then some p.2.1 else lookD d l := by
  unfold lookD; rw [findD]
  split
  · rfl
  · exact findD_shift d l _
theorem lookD_app (d : BitVec 64) : ∀ (l : List MRow) (p : MRow), lookD d (l ++ [p]) = (lookD d l).orElse fun _ => if d = p.1 then some p.2.1 else none
  | [], p => by rw [List.nil_append, lookD_cons, lookD_nil]; rfl
  | q :: l, p => by
    rw [List.cons_append, lookD_cons, lookD_cons, lookD_app d l p]
    by_cases h : d = q.1 <;> simp [h]
theorem lookD_keys {d : BitVec 64} : ∀ {l : List MRow}, lookD d l = none ↔ d ∉ l.map (·.1)
  | [] => by simp [lookD_nil]
  | p :: l => by
    rw [lookD_cons, List.map_cons, List.mem_cons]
    by_cases h : d = p.1
    · simp [h]
    · simp [h, lookD_keys (l := l)]
theorem findD_none {d : BitVec 64} {l : List MRow} (h : lookD d l = none) : findD d l 0 = none := by
  unfold lookD at h; simpa using h
/-- A key that is not there, put. -/
theorem put_new {d : BitVec 64} {v : Value} {l : List MRow} {clk : Nat} (h : lookD d l = none) : putD d v l clk = (l ++ [(d, v, clk)], clk + 1) := by
  unfold putD; rw [findD_none h]
theorem look_tup_none {d : BitVec 64} {l : List MRow} {z : Value} (h : lookD d l = none) : Value.tuple #[match findD d l 0 with | some p => p.2 | none => z, .bool (findD d l 0).isSome] = .tuple #[z, .bool false] := by
  rw [findD_none h]; rfl
theorem look_tup_some {d : BitVec 64} {l : List MRow} {z v : Value} (h : lookD d l = some v) : Value.tuple #[match findD d l 0 with | some p => p.2 | none => z, .bool (findD d l 0).isSome] = .tuple #[v, .bool true] := by
  unfold lookD at h
  cases hf : findD d l 0 with
  | none => rw [hf] at h; cases h
  | some p => rw [hf] at h; simp at h; subst h; rfl
theorem ixA_some {d : BitVec 64} {al : List App} {i : Nat} (h : ixA d al = some i) : ∃ hi : i < al.length, al[i].1 = d := by
  unfold ixA at h
  rw [List.findIdx?_eq_some_iff_getElem] at h
  obtain ⟨hi, h1, _⟩ := h
  exact ⟨hi, by simpa using h1⟩
theorem ixA_app {d : BitVec 64} (al : List App) (a : App) : ixA d (al ++ [a]) = (ixA d al).orElse fun _ => if a.1 = d then some al.length else none := by
  unfold ixA
  rw [List.findIdx?_append]
  cases h : List.findIdx? (fun a => decide (a.1 = d)) al with
  | some i => simp
  | none => by_cases e : a.1 = d <;> simp [List.findIdx?_cons, e]
theorem ixA_set {d : BitVec 64} : ∀ (al : List App) (i : Nat) (hi : i < al.length) (a : App), a.1 = al[i].1 → ixA d (al.set i a) = ixA d al
  | b :: al, 0, _, a, h => by
    have h : a.1 = b.1 := h
    unfold ixA; rw [List.set_cons_zero, List.findIdx?_cons, List.findIdx?_cons, h]
  | b :: al, i + 1, hi, a, h => by
    have ih := ixA_set (d := d) al i (by simpa using hi) a h
    unfold ixA at ih ⊢
    rw [List.set_cons_succ, List.findIdx?_cons, List.findIdx?_cons, ih]
/-- A new tower. -/
theorem tw_new (T e : TypeId) (bt room mb : Nat) : TW T e bt room [] [twC T bt room none 0 0 mb, twM mb 0 []] :=
  ⟨[], none, 0, mb, 0, [], [], [], rfl, ⟨.nil, (fun a h => by cases h), fun d => rfl, List.nodup_nil⟩, rfl⟩
/-- One more appointment. -/
theorem TWm.add {e : TypeId} {ml : List Am} {la la' : Option Addr} {c c' : Nat} {rows : List MRow} {NS NB NS' NC : List Ent} (h : TWm e ml la c rows NS NB) {a : Am} (clk : Nat) (hn : ixA a.h (ml.map Am.app) = none) (hb : Has NC a.ba (a.bl.map U8)) (hc : a.bl.length ≤ a.c)
    (ho : Own e 10 la' (ml.length + 1) c' (ml.flatMap Am.L ++ a.L) NS') : TWm e (ml ++ [a]) la' c' (rows ++ [(a.h, NV ml.length, clk)]) NS' (NC ++ NB) := by
  have hl : lookD a.h rows = none := by rw [h.map, hn]; rfl
  refine ⟨?_, fun b hb' => ?_, fun d => ?_, ?_⟩
  · rw [List.length_append, List.flatMap_append]; simpa using ho
  · rcases List.mem_append.1 hb' with h1 | h1
    · exact ⟨((h.box b h1).1).more (List.sublist_append_right _ _), (h.box b h1).2⟩
    · obtain rfl : b = a := by simpa using h1
      exact ⟨hb.more (List.sublist_append_left _ _), hc⟩
  · rw [lookD_app, h.map, List.map_append, List.map_cons, List.map_nil, ixA_app]
    cases hx : ixA d (ml.map Am.app) with
    | some i => simp
    | none =>
      by_cases e : a.h = d
      · simp [e]
      · simp [e, Ne.symm e]
  · rw [List.map_append, List.nodup_append]
    refine ⟨h.keys, by simp, fun x hx y hy => ?_⟩
    rintro rfl
    obtain rfl : x = a.h := by simpa using hy
    exact lookD_keys.1 hl hx
/-- Another appointment in its place. -/
theorem TWm.put {e : TypeId} {ml : List Am} {la : Option Addr} {c : Nat} {rows : List MRow} {NS NB NS' NC : List Ent} (h : TWm e ml la c rows NS NB) {a : Am} {i : Nat} (hi : i < ml.length) (hh : a.h = ml[i].h) (hb : Has NC a.ba (a.bl.map U8)) (hc : a.bl.length ≤ a.c)
    (ho : Own e 10 la ml.length c ((ml.set i a).flatMap Am.L) NS') : TWm e (ml.set i a) la c rows NS' (NC ++ NB) := by
  refine ⟨by rw [List.length_set]; exact ho, fun b hb' => ?_, fun d => ?_, h.keys⟩
  · rcases List.mem_or_eq_of_mem_set hb' with h1 | rfl
    · exact ⟨((h.box b h1).1).more (List.sublist_append_right _ _), (h.box b h1).2⟩
    · exact ⟨hb.more (List.sublist_append_left _ _), hc⟩
  · rw [h.map, List.map_set, ixA_set _ _ (by simpa using hi) _ (by simpa using hh)]
theorem TWm.look {e : TypeId} {ml : List Am} {la : Option Addr} {c : Nat} {rows : List MRow} {NS NB : List Ent} (h : TWm e ml la c rows NS NB) {d : BitVec 64} {i : Nat} (hi : ixA d (ml.map Am.app) = some i) : lookD d rows = some (NV i) := by rw [h.map, hi]; rfl
theorem TWm.lost {e : TypeId} {ml : List Am} {la : Option Addr} {c : Nat} {rows : List MRow} {NS NB : List Ent} (h : TWm e ml la c rows NS NB) {d : BitVec 64} (hi : ixA d (ml.map Am.app) = none) : lookD d rows = none := by rw [h.map, hi]; rfl
theorem ixA_lt {d : BitVec 64} {ml : List Am} {i : Nat} (h : ixA d (ml.map Am.app) = some i) : ∃ hi : i < ml.length, ml[i].h = d := by
  obtain ⟨h1, h2⟩ := ixA_some h
  exact ⟨by simpa using h1, by simpa using h2⟩
theorem own_addr {e size nn c : Nat} {ba : Option Addr} {xs : List Value} {N : List Ent} (h : Own e size ba nn c xs N) (h0 : 0 < nn) : ∃ b, ba = some ⟨b, 0, none⟩ := by
  cases h with
  | nil => omega
  | blk => exact ⟨_, rfl⟩
theorem tw_zero {T e : TypeId} {bt room : Nat} {L : List Ent} (h : TW T e bt room [] L) : ∃ la c mb clk rows NS NB, TWm e [] la c rows NS NB ∧ L = TWL T bt room la 0 c mb clk rows NS NB := by
  obtain ⟨ml, la, c, mb, clk, rows, NS, NB, hal, htw, rfl⟩ := h
  obtain rfl : ml = [] := by simpa using hal
  exact ⟨la, c, mb, clk, rows, NS, NB, htw, rfl⟩
theorem tw_one {T e : TypeId} {bt room : Nat} {L : List Ent} {d : BitVec 64} {nb : Int} {l : List UInt8} (h : TW T e bt room [(d, nb, l)] L) : ∃ ba n lb c mb clk rows NS NB, TWm e [⟨d, nb, l, ba, n⟩] (some ⟨lb, 0, none⟩) c rows NS NB ∧ L = TWL T bt room (some ⟨lb, 0, none⟩) 1 c mb clk rows NS NB := by
  obtain ⟨ml, la, c, mb, clk, rows, NS, NB, hal, htw, rfl⟩ := h
  match ml, hal with
  | [⟨h', nb', l', ba, n⟩], hal =>
    simp only [List.map_cons, List.map_nil, List.cons.injEq, and_true, Am.app, Prod.mk.injEq] at hal
    obtain ⟨rfl, rfl, rfl⟩ := hal
    obtain ⟨lb, rfl⟩ := own_addr htw.own (Nat.zero_lt_one)
    exact ⟨ba, n, lb, c, mb, clk, rows, NS, NB, htw, rfl⟩
theorem ixA_one (d : BitVec 64) (a : App) (h : a.1 = d) : ixA d [a] = some 0 := by unfold ixA; simp [List.findIdx?_cons, h]
theorem ixA_not (d : BitVec 64) (a : App) (h : ¬ a.1 = d) : ixA d [a] = none := by unfold ixA; simp [List.findIdx?_cons, h]
theorem perm_abr {A B R : List Ent} : List.Perm ((A ++ B) ++ R) (B ++ (A ++ R)) := by rw [List.append_assoc]; exact List.perm_append_comm_assoc A B R
section
variable {P : Program} {n : Nat} {w0 : World} {mods : List Nat} {k : Kont} {E : Env} {L : List Ent} {dst : Option Tmp} {T t ty : TypeId} {pos : String} {after : Array Edge} {g : Option (Nat × Bool)} {x y z : Operand}
theorem Sees.row10 {ml : List Am} {ba : Option Addr} {m : Nat} (h : Sees w0 mods L ba (ml.flatMap Am.L)) (hm : m < ml.length) : Sees w0 mods L (ba.map (·.add (m * 10))) ml[m].L := by
  have := (h.part (m * 10)).take 10
  rwa [flatK_drop am_len ml m hm] at this
theorem Sees.row10' {ml : List Am} {b m : Nat} (h : Sees w0 mods L (some ⟨b, 0, none⟩) (ml.flatMap Am.L)) (hm : m < ml.length) : Sees w0 mods L (some ⟨b, 0 + m * 10, none⟩) ml[m].L := by
  have := h.row10 hm
  rwa [Option.map_some, add_mk] at this
theorem Sees.rowAt {ml : List Am} {b m : Nat} (h : Sees w0 mods L (some ⟨b, 0, none⟩) (ml.flatMap Am.L)) (hm : m < ml.length) (k : Nat) : Sees w0 mods L (some ⟨b, 0 + m * 10 + k, none⟩) (ml[m].L.drop k) := by
  have := (h.row10' hm).part k
  rwa [Option.map_some, add_mk] at this
theorem val_indexRow {b len cap e bytes m : Nat} {ml : List Am} {q : IntKind} {j : Int} (hk : sliOf P t = some (e, 10, bytes)) (hx : Env.ev E x = some (.slice (some ⟨b, 0, none⟩) len cap)) (hy : Env.ev E y = some (.int q j)) (hj : j = (m : Int)) (hm : m < len)
    (hs : Sees w0 mods L (some ⟨b, 0, none⟩) (ml.flatMap Am.L)) (hl : m < ml.length) : Val P n w0 mods E L ⟨dst, .indexAddr t x y, T, pos, after, g⟩ (.pointer (some ⟨b, 0 + m * 10, none⟩)) := by
  have := val_indexSli (n := n) (T := T) (pos := pos) (after := after) (g := g) (dst := dst) hk hx hy hj hm hs (by rw [flatK_len am_len]; omega)
  rwa [Option.map_some, add_mk] at this
/-- A row of a slice of the call's own, written. -/
theorem gs_storeRow {ops : List Oper} {Q : Exit → Act → World → Prop} {K : Act → World → Prop} {L' : List Ent → List Ent} {m e nn c : Nat} {ba : Option Addr} {ml : List Am} {N : List Ent} {v : Value} {a : Am} (hk : (P.info? t).map (·.size) = some 10)
    {lb : Nat} (hba : ba = some ⟨lb, 0, none⟩) (hx : Env.ev E x = some (.pointer (some ⟨lb, 0 + m * 10, none⟩))) (hy : Env.ev E y = some v) (hv : v.cells = a.L.toArray) (hw : Env.wants E ops g = some true) (hown : Own e 10 ba nn c (ml.flatMap Am.L) N) (hm : m < ml.length) (hr : ∀ N', ReplT L N N' (L' N'))
    (h : ∀ N', Own e 10 ba nn c ((ml.set m a).flatMap Am.L) N' → GX n w0 mods K E (L' N')) : GX n w0 mods (stepOp P ops Q (⟨none, .store t x y, T, pos, after, g⟩) K) E L := by
  have hlen := flatK_len am_len ml
  have hlen' := flatK_len am_len (ml.set m a)
  rw [List.length_set] at hlen'
  have hm10 := hown.len
  generalize hxs : ml.flatMap Am.L = xs at hown hm10 hlen
  cases hown with
  | nil => simp at hlen; omega
  | @blk b n' c' xs junk hl hc hnc =>
    subst hxs
    have hx' : Env.ev E x = some (.pointer (some ⟨b, m * 10, none⟩)) := by rw [hx, Nat.zero_add]; cases hba; rfl
    have hnew := h [⟨b, .cells ((ml.set m a).flatMap Am.L ++ junk).toArray e (0, 0)⟩] (.blk (by rw [hlen', ← hlen]; exact hl) (by rw [List.length_append, hlen', ← hlen, ← List.length_append]; exact hc) hnc)
    obtain ⟨R, p1, p2⟩ := (hr [⟨b, .cells ((ml.set m a).flatMap Am.L ++ junk).toArray e (0, 0)⟩]).perm
    refine gx_perm p1 (gs_store hk hx' hy hv (by rfl) hw (by simp [Value.oneCell']) .head (by rw [List.length_append, hlen]; show m * 10 + 10 ≤ _; omega) (cs' := (ml.set m a).flatMap Am.L ++ junk) ?_ (gx_perm p2.symm hnew))
    rw [← flatK_set am_len ml m hm a]
    unfold splice
    rw [List.take_append_of_le_length (by rw [hlen]; omega), List.drop_append, List.append_assoc, List.append_assoc]
    rw [show m * 10 + a.L.length - (ml.flatMap Am.L).length = 0 by rw [hlen, am_len]; omega, List.drop_zero, List.append_assoc]
end
end Go.Eng
