/-
  A feed lives through a write into a row.
-/
import Derived.Test.YtfbipojncmkckaaHand0
import Derived.Test.YtfbipojncmkckaaCls
set_option linter.unusedVariables false
set_option linter.unusedSimpArgs false
namespace Go.Proofs.Ytfbipojncmkckaa
open Go.Ab
theorem Feed.extCX {b : Nat} {h h' : Heap} {bf k : Nat} (f : Feed h bf k) (x : ExtC b h h') (hm : h.isM b = false) (hn : h.n0 ≤ b) : Feed h' bf k := by
  obtain ⟨L, a, xs, h1, h2, h3, h4, h5, h6⟩ := f
  have ap : Apart h b L := fun c hc => by
    have := h6 c hc
    refine ⟨by omega, fun r _ q => ?_⟩
    have := Heap.cls_eq q
    omega
  exact ⟨L, a, xs, h1.extC x hm, h2, h3, h4.extC (fun q => q) x ap, h5, by rw [x.n0]; exact h6⟩
end Go.Proofs.Ytfbipojncmkckaa
