/-
  Engine, part R: small structs of two ints.
-/
import Derived.Test.YtddckbhlfeegoaaEngQ
namespace Go.Eng
open Go
set_option linter.unusedVariables false
set_option linter.unusedSimpArgs false
def isI2 (P : Program) (t : TypeId) : Bool :=
  match P.underlying t with
  | some (.struct fs) => match fs.toList with
    | [f0, f1] => f0.name != "_" && f1.name != "_" && f0.offset == 0 && f1.offset == 1 && isI64 P f0.type && isI64 P f1.type
    | _ => false
  | _ => false
structure I2T (P : Program) (t : TypeId) : Prop where
  guard : P.eqGuardType P.depth t = false
  is : isI2 P t = true
  out : P.stoodInHeld t = false
theorem run_equal_i2 {P : Program} {t : TypeId} (h : I2T P t) (r a r' a' : Int) (w : World) : (Op.equal t (.agg ([I64 r, I64 a] : List Value).toArray) (.agg ([I64 r', I64 a'] : List Value).toArray)).run P w = .ok (decide (r = r' ∧ a = a')) w := by
  have his := h.is
  unfold isI2 at his
  split at his
  · rename_i fs hu
    split at his
    · rename_i f0 f1 hfs
      simp only [Bool.and_eq_true, bne_iff_ne, ne_eq, beq_iff_eq] at his
      obtain ⟨⟨⟨⟨⟨n0, n1⟩, o0⟩, o1⟩, i0⟩, i1⟩ := his
      have u0 := isI64_spec i0
      have u1 := isI64_spec i1
      have hfa : fs = #[f0, f1] := by apply Array.ext'; simpa using hfs
      subst hfa
      have p0 : ∀ r a : Int, (part f0.type ([I64 r, I64 a] : List Value).toArray 0).run P w = .ok (I64 r) w := fun r a => by simp [part, isAgg, run_underlying u0]
      have p1 : ∀ r a : Int, (part f1.type ([I64 r, I64 a] : List Value).toArray 1).run P w = .ok (I64 a) w := fun r a => by simp [part, isAgg, run_underlying u1]
      have ei : ∀ (d : Nat) (u : TypeId) (p q : Int), P.underlying u = some (.int .i64) → (Op.equalIn (d + 1) u (I64 p) (I64 q)).run P w = .ok (decide (p = q)) w := fun d u p q hu => by
        simp [Op.equalIn, run_underlying hu]
        by_cases e : p = q <;> simp [e]
      suffices H : ∀ d, (Op.equalIn (d + 2) t (.agg ([I64 r, I64 a] : List Value).toArray) (.agg ([I64 r', I64 a'] : List Value).toArray)).run P w = .ok (decide (r = r' ∧ a = a')) w from H 9998
      intro d
      have e0 := ei d f0.type r r' u0
      have e1 := ei d f1.type a a' u1
      rw [show d + 2 = (d + 1) + 1 from rfl]
      unfold Op.equalIn
      simp only [Sem.run_bind, run_underlying hu, Result.andThen_ok, run_program, Sem.run_pure, h.out]
      simp [Sem.run_bind, n0, n1, o0, o1, p0, p1, e0, e1]
      by_cases c0 : r = r' <;> simp [c0]
      by_cases c1 : a = a' <;> simp [c1]
    · cases his
  · cases his
section
variable {P : Program} {n : Nat} {w0 : World} {mods : List Nat} {E : Env} {L : List Ent} {dst : Option Tmp} {T t ty : TypeId} {pos : String} {after : Array Edge} {g : Option (Nat × Bool)} {x y z : Operand}
theorem val_eqlI2 {u v : Value} {r a₀ r' a' : Int} (hk : I2T P t) (hx : Env.ev E x = some u) (hy : Env.ev E y = some v) (hu : u = .agg ([I64 r, I64 a₀] : List Value).toArray) (hv : v = .agg ([I64 r', I64 a'] : List Value).toArray) :
    Val P n w0 mods E L ⟨dst, .binOp .eql t x y ty, T, pos, after, g⟩ (.bool (decide (r = r' ∧ a₀ = a'))) := fun a w hf hi => by
  subst hu; subst hv
  have := run_equal_i2 hk r a₀ r' a' w
  simp only [execOp, hf.eval hx, hf.eval hy, Sem.run_bind, run_eqGuard_agg hk.guard, Result.andThen_ok, binOp, this, Sem.run_pure]
theorem val_neqI2 {u v : Value} {r a₀ r' a' : Int} (hk : I2T P t) (hx : Env.ev E x = some u) (hy : Env.ev E y = some v) (hu : u = .agg ([I64 r, I64 a₀] : List Value).toArray) (hv : v = .agg ([I64 r', I64 a'] : List Value).toArray) :
    Val P n w0 mods E L ⟨dst, .binOp .neq t x y ty, T, pos, after, g⟩ (.bool (decide (¬ (r = r' ∧ a₀ = a')))) := fun a w hf hi => by
  subst hu; subst hv
  have := run_equal_i2 hk r a₀ r' a' w
  simp only [execOp, hf.eval hx, hf.eval hy, Sem.run_bind, run_eqGuard_agg hk.guard, Result.andThen_ok, binOp, this, Sem.run_pure]
  simp
end
end Go.Eng
