/-
  attr.Copy, for seats that lack attr's other functions.
-/
import Derived.Test.YtnbmmebhammlkaaAttrD
import Derived.Test.YtnbmmebhammlkaaSattr
set_option linter.unusedVariables false
set_option linter.unusedSimpArgs false
namespace Go.Proofs.Ytnbmmebhammlkaa
open Go.Ab

section
variable {X : XTab}

theorem attr_Copy (hX : OnlyKnown X) {h : Heap} {v : AVal} {l : List Att} (o : Sl attrR h v l) (hl : l.length ≤ 100) :
    Tells (fun q => acallX Try.prog X q F_attr_Copy [v] h) fun r h' => Gl attrR h h' r l ∧ Ext [] h h' ∧ Wr h h' r := by
  refine R_attr_Copy _ (hX _ _ rfl) ?_
  refine Tells.prot fun Q' hQ => ?_
  unfold S_attr_Copy
  try simp
  refine Tells.copy o (by rfl) (by omega) (by decide) fun s h1 g1 x1 w1 => ?_
  try simp
  exact Tells.ok (hQ _ _ ⟨g1, x1, w1⟩)

end
end Go.Proofs.Ytnbmmebhammlkaa
