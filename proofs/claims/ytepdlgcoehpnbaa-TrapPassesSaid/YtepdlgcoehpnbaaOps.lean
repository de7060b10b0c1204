/-
  Reckoning in the S-forms: texts and floats compared.
-/
import Derived.Test.YtepdlgcoehpnbaaB2
set_option linter.unusedVariables false
set_option linter.unusedSimpArgs false
namespace Go.Ab

/-- How two floats stand to one another. -/
abbrev ford (a b : Nat) : Option Ordering := FloatKind.f64.format.order a b
section
variable (P : Program) (t : TypeId) (x y : Operand) (a b : ByteArray) (m n : Nat)
@[simp] theorem aBin_seql : aBin P .eql t x y (.str a) (.str b) = some (.bool (a.toList == b.toList)) := (rfl)
@[simp] theorem aBin_sneq : aBin P .neq t x y (.str a) (.str b) = some (.bool (!(a.toList == b.toList))) := (rfl)
@[simp] theorem aBin_slss : aBin P .lss t x y (.str a) (.str b) = some (.bool (Op.bytesLess a.toList b.toList)) := (rfl)
@[simp] theorem aBin_sgeq : aBin P .geq t x y (.str a) (.str b) = some (.bool (!Op.bytesLess a.toList b.toList)) := (rfl)
@[simp] theorem aBin_sgtr : aBin P .gtr t x y (.str a) (.str b) = some (.bool (!(Op.bytesLess a.toList b.toList || a.toList == b.toList))) := (rfl)
@[simp] theorem aBin_feql : aBin P .eql t x y (.flt .f64 m) (.flt .f64 n) = some (.bool (ford m n == some .eq)) := (rfl)
@[simp] theorem aBin_fneq : aBin P .neq t x y (.flt .f64 m) (.flt .f64 n) = some (.bool (ford m n != some .eq)) := (rfl)
@[simp] theorem aBin_flss : aBin P .lss t x y (.flt .f64 m) (.flt .f64 n) = some (.bool (ford m n == some .lt)) := (rfl)
@[simp] theorem aBin_fgtr : aBin P .gtr t x y (.flt .f64 m) (.flt .f64 n) = some (.bool (ford m n == some .gt)) := (rfl)
@[simp] theorem aBin_fgeq : aBin P .geq t x y (.flt .f64 m) (.flt .f64 n) = some (.bool (ford m n == some .gt || ford m n == some .eq)) := (rfl)
@[simp] theorem aBin_fleq : aBin P .leq t x y (.flt .f64 m) (.flt .f64 n) = some (.bool (ford m n == some .lt || ford m n == some .eq)) := (rfl)
end
end Go.Ab
