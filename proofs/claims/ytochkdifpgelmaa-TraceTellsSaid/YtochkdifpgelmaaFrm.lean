/-
  Reckoning in the S-forms: which slots of a frame stay.
-/
import Derived.Test.YtochkdifpgelmaaB2
set_option linter.unusedVariables false
set_option linter.unusedSimpArgs false
namespace Go.Ab

/-- All slots but those of L stay. -/
def Frm (L : List Nat) (t t' : T) : Prop := ∀ i, L.contains i = false → t' i = t i
theorem Frm.refl {L : List Nat} {t : T} : Frm L t t := fun _ _ => rfl
theorem Frm.trans {L : List Nat} {t u v : T} (a : Frm L t u) (b : Frm L u v) : Frm L t v := fun i hi => (b i hi).trans (a i hi)
theorem Frm.u {L : List Nat} {t t' : T} (a : Frm L t t') (d : Nat) (v : AVal) (hd : L.contains d = true := by decide) : Frm L t (upd t' d v) := fun i hi => by
  have : i ≠ d := fun q => by subst q; rw [hi] at hd; cases hd
  simp only [upd, if_neg this]
  exact a i hi
theorem Frm.mono {L L' : List Nat} {t t' : T} (a : Frm L t t') (h : ∀ i, L.contains i = true → L'.contains i = true) : Frm L' t t' := fun i hi => a i (by
  cases q : L.contains i with
  | false => rfl
  | true => rw [h i q] at hi; cases hi)
end Go.Ab
