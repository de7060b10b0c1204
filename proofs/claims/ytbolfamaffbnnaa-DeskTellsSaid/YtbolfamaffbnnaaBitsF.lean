/-
  A float's bits: one nought, one NaN.
-/
import Derived.Test.YtbolfamaffbnnaaOps
set_option linter.unusedVariables false
set_option linter.unusedSimpArgs false
namespace Go.Proofs.Ytbolfamaffbnnaa
open Go.Ab

section
variable {X : XTab}

/-- A float's bits: one nought, one NaN. -/
def bitsF (x : Nat) : Int := if (ford x x != some .eq) = true then 9221120237041090560 else if (ford x 0 == some .eq) = true then 0 else x

end
end Go.Proofs.Ytbolfamaffbnnaa
