/-
  What float.Bits and precentorref1.Bits tell.
-/
import Derived.Test.YtnlcjindeoaklaaHandF
import Derived.Test.YtnlcjindeoaklaaBitsF
import Derived.Test.YtnlcjindeoaklaaSfloat
import Derived.Test.YtnlcjindeoaklaaSprecentorref1
set_option linter.unusedVariables false
set_option linter.unusedSimpArgs false
namespace Go.Proofs.Ytnlcjindeoaklaa
open Go.Ab

section
variable {X : XTab}

theorem IsNaN_ (hX : OnlyKnown X) (x : Nat) (h : Heap) : Tells (fun q => acallX Try.prog X q F_math_IsNaN [.flt .f64 x] h) fun r h' => r = .bool (ford x x != some .eq) ∧ h' = h := by
  refine R_math_IsNaN _ (hX _ _ rfl) ?_
  unfold S_math_IsNaN
  try simp
  exact Tells.ok ⟨rfl, rfl⟩

theorem float_Bits (hX : OnlyKnown X) (x : Nat) (h : Heap) : Tells (fun q => acallX Try.prog X q F_float_Bits [.flt .f64 x] h) fun r h' => r = .int .u64 (bitsF x) ∧ h' = h := by
  refine R_float_Bits _ (hX _ _ rfl) ?_
  refine Tells.prot fun Q' hQ => ?_
  unfold S_float_Bits
  try simp
  refine Tells.bind (IsNaN_ hX x h) ?_
  rintro _ h ⟨rfl, rfl⟩
  cases h1 : (ford x x != some .eq) with
  | true =>
    try simp
    exact Tells.ok (hQ _ _ ⟨by simp [bitsF, h1], rfl⟩)
  | false =>
    cases h2 : (ford x 0 == some .eq) with
    | true =>
      simp [J_float_Bits_0, h2]
      exact Tells.ok (hQ _ _ ⟨by simp [bitsF, h1, h2], rfl⟩)
    | false =>
      simp [J_float_Bits_0, h2, J_float_Bits_1, nat_bits]
      exact Tells.ok (hQ _ _ ⟨by simp [bitsF, h1, h2], rfl⟩)

theorem float_Same (hX : OnlyKnown X) (x y : Nat) (h : Heap) : Tells (fun q => acallX Try.prog X q F_float_Same [.flt .f64 x, .flt .f64 y] h) fun r h' => r = .bool (bitsF x == bitsF y) ∧ h' = h := by
  refine R_float_Same _ _ (hX _ _ rfl) ?_
  refine Tells.prot fun Q' hQ => ?_
  unfold S_float_Same
  try simp
  refine Tells.bind (float_Bits hX x h) ?_
  rintro _ h ⟨rfl, rfl⟩
  try simp
  refine Tells.bind (float_Bits hX y h) ?_
  rintro _ h ⟨rfl, rfl⟩
  try simp
  exact Tells.ok (hQ _ _ ⟨rfl, rfl⟩)

theorem ref_Bits (hX : OnlyKnown X) (x : Nat) (h : Heap) : Tells (fun q => acallX Try.prog X q F_precentorref1_Bits [.flt .f64 x] h) fun r h' => r = .int .u64 (bitsF x) ∧ h' = h := by
  refine R_precentorref1_Bits _ (hX _ _ rfl) ?_
  refine Tells.prot fun Q' hQ => ?_
  unfold S_precentorref1_Bits
  cases h1 : (ford x x != some .eq) with
  | true =>
    simp [h1]
    exact Tells.ok (hQ _ _ ⟨by simp [bitsF, h1], rfl⟩)
  | false =>
    cases h2 : (ford x 0 == some .eq) with
    | true =>
      simp [h1, J_precentorref1_Bits_0, h2]
      exact Tells.ok (hQ _ _ ⟨by simp [bitsF, h1, h2], rfl⟩)
    | false =>
      simp [h1, J_precentorref1_Bits_0, h2, J_precentorref1_Bits_1, nat_bits]
      exact Tells.ok (hQ _ _ ⟨by simp [bitsF, h1, h2], rfl⟩)

end
end Go.Proofs.Ytnlcjindeoaklaa
