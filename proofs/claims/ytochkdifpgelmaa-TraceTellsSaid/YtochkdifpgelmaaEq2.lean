/-
  Structs of two ints compared.
-/
import Derived.Test.YtochkdifpgelmaaB2
set_option linter.unusedVariables false
set_option linter.unusedSimpArgs false
namespace Go.Ab
open Go

theorem aPure_pure {α : Type} (P : Program) (a : α) : aPure P (pure a : Sem α) = some a := rfl
theorem aPure_prog (P : Program) : aPure P program = some P := rfl
theorem aPure_und {P : Program} {t : TypeId} {d : TypeDesc} (h : P.underlying t = some d) : aPure P (underlying t) = some d := by
  simp only [underlying, aPure_bind, aPure_prog, Option.bind_some, h, aPure_pure]
theorem aPure_eqInt {P : Program} {t : TypeId} {k : IntKind} (h : P.underlying t = some (.int k)) (d : Nat) (a b : Int) : aPure P (Op.equalIn (d + 1) t (.int k a) (.int k b)) = some (a == b) := by
  simp only [Op.equalIn, aPure_bind, aPure_und h, Option.bind_some]
  simp [aPure_pure]
theorem aPure_part {P : Program} {t : TypeId} {k : IntKind} (h : P.underlying t = some (.int k)) {cs : Array Value} {off : Nat} {v : Value} (hv : cs[off]? = some v) : aPure P (part t cs off) = some v := by
  simp only [part, isAgg, aPure_bind, aPure_und h, Option.bind_some]
  simp [aPure_pure, hv]
theorem aPure_eq2 {P : Program} {t ti : TypeId} {k : IntKind} {f g : Field} (hu : P.underlying t = some (.struct #[f, g])) (hi : P.underlying ti = some (.int k)) (nf : f.name ≠ "_") (ng : g.name ≠ "_") (tf : f.type = ti) (tg : g.type = ti) (of : f.offset = 0) (og : g.offset = 1) (hs : P.stoodInHeld t = false) (d : Nat) (a b m n : Int) :
    aPure P (Op.equalIn (d + 2) t (.agg #[.int k a, .int k b]) (.agg #[.int k m, .int k n])) = some (a == m && b == n) := by
  rw [Op.equalIn]
  simp only [aPure_bind, aPure_und hu, aPure_prog, Option.bind_some, hs]
  have p1 : ∀ x y : Int, aPure P (part ti #[.int k x, .int k y] 0) = some (.int k x) := fun x y => aPure_part hi rfl
  have p2 : ∀ x y : Int, aPure P (part ti #[.int k x, .int k y] 1) = some (.int k y) := fun x y => aPure_part hi rfl
  have e : ∀ x y : Int, aPure P (Op.equalIn (d + 1) ti (.int k x) (.int k y)) = some (x == y) := fun x y => aPure_eqInt hi d x y
  cases c1 : (a == m) <;> cases c2 : (b == n) <;> simp [nf, ng, tf, tg, of, og, aPure_bind, aPure_pure, p1, p2, e, c1, c2]
def isI64 : Option TypeDesc → Bool
  | some (.int .i64) => true
  | _ => false
theorem isI64_of : ∀ {d : Option TypeDesc}, isI64 d = true → d = some (.int .i64)
  | some (.int .i64), _ => rfl
def isTwo (P : Program) (t : TypeId) : Bool := match P.underlying t with
  | some (.struct fs) => (match fs.toList with
    | [f, g] => f.name != "_" && (g.name != "_" && (f.offset == 0 && (g.offset == 1 && (f.type == g.type && (isI64 (P.underlying f.type) && (!P.stoodInHeld t && !P.eqGuardType P.depth t))))))
    | _ => false)
  | _ => false
theorem isTwo_of {P : Program} {t : TypeId} (h : isTwo P t = true) : ∃ f g : Field, P.underlying t = some (.struct #[f, g]) ∧ f.name ≠ "_" ∧ g.name ≠ "_" ∧ f.offset = 0 ∧ g.offset = 1 ∧ g.type = f.type ∧ P.underlying f.type = some (.int .i64) ∧ P.stoodInHeld t = false ∧ P.eqGuardType P.depth t = false := by
  unfold isTwo at h
  split at h
  · rename_i fs hu
    split at h
    · rename_i f g hl
      have : fs = #[f, g] := by rw [← Array.toList_inj]; exact hl
      subst this
      simp at h
      obtain ⟨a1, a2, a3, a4, a5, a6, a7, a8⟩ := h
      exact ⟨f, g, hu, a1, a2, a3, a4, a5.symm, isI64_of a6, a7, a8⟩
    · cases h
  · cases h
theorem aPure_eqT {P : Program} {t : TypeId} (h : isTwo P t = true) (a b m n : Int) : aPure P (Op.equal t (.agg #[.int .i64 a, .int .i64 b]) (.agg #[.int .i64 m, .int .i64 n])) = some (a == m && b == n) := by
  obtain ⟨f, g, hu, a1, a2, a3, a4, a5, a6, a7, a8⟩ := isTwo_of h
  exact aPure_eq2 hu a6 a1 a2 rfl a5 a3 a4 a7 9998 a b m n
theorem aBin_neq2 {P : Program} {t : TypeId} (h : isTwo P t = true) (x y : Operand) (a b m n : Int) : aBin P .neq t x y (.agg [I a, I b]) (.agg [I m, I n]) = some (.bool (!(a == m && b == n))) := by
  obtain ⟨f, g, hu, a1, a2, a3, a4, a5, a6, a7, a8⟩ := isTwo_of h
  have e := aPure_eqT h a b m n
  have gd : aPure P (eqGuard .neq t x y (.agg #[.int .i64 a, .int .i64 b]) (.agg #[.int .i64 m, .int .i64 n])) = some () := by
    simp only [eqGuard, Bool.not_true, Bool.false_eq_true, if_false, aPure_bind, aPure_prog, Option.bind_some, a8]
    rfl
  have bn : aPure P (binOp .neq t (.agg #[.int .i64 a, .int .i64 b]) (.agg #[.int .i64 m, .int .i64 n])) = some (.bool (!(a == m && b == n))) := by
    show aPure P (Op.equal t (.agg #[.int .i64 a, .int .i64 b]) (.agg #[.int .i64 m, .int .i64 n]) >>= fun r => pure (Value.bool (!r))) = _
    rw [aPure_bind, e]
    rfl
  have v1 : ∀ a b : Int, (AVal.agg [I a, I b]).toV = some (.agg #[.int .i64 a, .int .i64 b]) := fun a b => rfl
  simp only [aBin, v1, aPure_bind, gd, bn, Option.bind_some]
  rfl
end Go.Ab
