/-
  What float.Of and the document's own tell.
-/
import Derived.Test.YtnlcjindeoaklaaFlC
set_option linter.unusedVariables false
set_option linter.unusedSimpArgs false
namespace Go.Proofs.Ytnlcjindeoaklaa
open Go.Ab

section
variable {X : XTab}
/-- Of bits the float, if they are what Bits tells. -/
def ofF (b : Nat) : Nat × Bool := if bitsF b = (b : Int) then (b, true) else (0, false)
theorem float_Of (hX : OnlyKnown X) (b : Nat) (h : Heap) : Tells (fun q => acallX Try.prog X q F_float_Of [.int .u64 b] h) fun r h' => r = .tup [.flt .f64 (ofF b).1, .bool (ofF b).2] ∧ h' = h := by
  refine R_float_Of _ (hX _ _ rfl) ?_
  refine Tells.prot fun Q' hQ => ?_
  unfold S_float_Of
  have nf := nat_frombits (b : Int)
  rw [Int.toNat_natCast] at nf
  simp [nf]
  refine Tells.bind (float_Bits hX b h) ?_
  rintro _ h ⟨rfl, rfl⟩
  by_cases c : bitsF b = (b : Int)
  · simp [c, J_float_Of_0]
    exact Tells.ok (hQ _ _ ⟨by simp [ofF, c], rfl⟩)
  · have : (bitsF b != (b : Int)) = true := by simp [c]
    simp [this]
    exact Tells.ok (hQ _ _ ⟨by simp [ofF, c], rfl⟩)
theorem ref_Of (hX : OnlyKnown X) (b : Nat) (h : Heap) : Tells (fun q => acallX Try.prog X q F_precentorref1_Of [.int .u64 b] h) fun r h' => r = .tup [.flt .f64 (ofF b).1, .bool (ofF b).2] ∧ h' = h := by
  refine R_precentorref1_Of _ (hX _ _ rfl) ?_
  refine Tells.prot fun Q' hQ => ?_
  unfold S_precentorref1_Of
  have nf := nat_frombits (b : Int)
  rw [Int.toNat_natCast] at nf
  simp [nf]
  refine Tells.bind (ref_Bits hX b h) ?_
  rintro _ h ⟨rfl, rfl⟩
  by_cases c : bitsF b = (b : Int)
  · simp [c, J_precentorref1_Of_0]
    exact Tells.ok (hQ _ _ ⟨by simp [ofF, c], rfl⟩)
  · have : (bitsF b != (b : Int)) = true := by simp [c]
    simp [this]
    exact Tells.ok (hQ _ _ ⟨by simp [ofF, c], rfl⟩)
end
end Go.Proofs.Ytnlcjindeoaklaa
