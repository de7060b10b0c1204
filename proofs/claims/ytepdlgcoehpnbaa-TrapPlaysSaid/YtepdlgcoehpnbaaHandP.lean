/-
  What precentorhand's Pick tells.
-/
import Derived.Test.YtepdlgcoehpnbaaB1
import Derived.Test.YtepdlgcoehpnbaaSprecentorhand
set_option linter.unusedVariables false
set_option linter.unusedSimpArgs false
namespace Go.Proofs.Ytepdlgcoehpnbaa
open Go.Ab

section
variable {X : XTab}

def pick (n m : Int) : Int := if m < 1 then 0 else if n.tmod m < 0 then n.tmod m + m else n.tmod m

theorem pick_lo (n m : Int) : 0 ≤ pick n m := by
  unfold pick
  split
  · omega
  · split
    · have := Int.lt_tmod_of_pos n (show 0 < m by omega); omega
    · omega
theorem pick_hi (n m : Int) (h : 1 ≤ m) : pick n m < m := by
  unfold pick
  have := Int.tmod_lt_of_pos n (show 0 < m by omega)
  split
  · omega
  · split <;> omega

theorem Pick (hX : OnlyKnown X) (n m : Int) (hm : In64 m) (h : Heap) : Tells (fun q => acallX Try.prog X q F_precentorhand_Pick [I n, I m] h) fun v h' => v = I (pick n m) ∧ h' = h := by
  refine R_precentorhand_Pick _ _ (hX _ _ rfl) ?_
  unfold S_precentorhand_Pick
  simp
  by_cases h1 : m < 1
  · simp [h1]
    exact Tells.ok ⟨by simp [pick, h1], rfl⟩
  · simp [h1, J_precentorhand_Pick_0, aBin_rem _ _ _ _ _ _ _ (show m ≠ 0 by omega)]
    by_cases h2 : n.tmod m < 0
    · simp [h2, J_precentorhand_Pick_1]
      refine Tells.ok ⟨?_, rfl⟩
      have := Int.lt_tmod_of_pos n (show 0 < m by omega)
      rw [wrap_id (by omega) (by have := hm.2; omega)]
      simp [pick, h1, h2]
    · simp [h2, J_precentorhand_Pick_1]
      exact Tells.ok ⟨by simp [pick, h1, h2], rfl⟩

end
end Go.Proofs.Ytepdlgcoehpnbaa
