/-
  What tree.is tells.
-/
import Derived.Test.YtebkohdmoaginaaPath1
import Derived.Test.YtebkohdmoaginaaTree0
set_option linter.unusedVariables false
set_option linter.unusedSimpArgs false
namespace Go.Proofs.Ytebkohdmoaginaa
open Go.Ab

/-- Is there such a broker? -/
def isT (ys : List Int) (b : Int) : Bool := rightT ys && decide (0 ≤ b) && decide (b ≤ ys.length)
theorem isT_ok {ys : List Int} {b : Int} (h : isT ys b = true) : TreeOk ys ∧ ys.length ≤ 7 ∧ 0 ≤ b ∧ b ≤ ys.length := by
  unfold isT rightT at h
  simp only [Bool.and_eq_true, decide_eq_true_eq] at h
  refine ⟨fun i y hy => ?_, h.1.1.2, h.1.2, h.2⟩
  have := (rightFrom_all ys 0).1 h.1.1.1 i y hy
  simpa using this
theorem pathF_len (ys : List Int) (a b : Int) : (pathF ys a b).length ≤ a.toNat + b.toNat + 2 := by
  unfold pathF
  have h1 := trim_len1 9 (upF ys a) (upF ys b)
  have h2 := trim_len 9 (upF ys a) (upF ys b)
  have h3 := (upN_len a.toNat ys a).2
  have h4 := (upN_len b.toNat ys b).2
  change (upF ys a).length ≤ _ at h3
  change (upF ys b).length ≤ _ at h4
  simp
  omega
def distF (ys : List Int) (a b : Int) : Int := if isT ys a = true ∧ isT ys b = true then ((pathF ys a b).length : Int) - 1 else -1

section
variable {X : XTab}

theorem tree_is (hX : OnlyKnown X) {h : Heap} {v : AVal} {ys : List Int} (o : Sl intR h v ys) (hl : ys.length < 2 ^ 62) (b : Int) :
    Tells (fun q => acallX Try.prog X q F_tree_is [v, I b] h) fun r h' => r = .bool (isT ys b) ∧ h' = h := by
  refine R_tree_is _ _ (hX _ _ rfl) ?_
  refine Tells.prot fun Q' hQ => ?_
  unfold S_tree_is
  simp
  refine Tells.bind (Right hX o hl) ?_
  rintro _ h ⟨rfl, rfl⟩
  cases hr : rightT ys with
  | false =>
    simp
    exact Tells.ok (hQ _ _ ⟨by simp [isT, hr], rfl⟩)
  | true =>
    by_cases h1 : 0 ≤ b
    · simp [h1, o.len]
      exact Tells.ok (hQ _ _ ⟨by simp [isT, hr, h1], rfl⟩)
    · simp [h1]
      exact Tells.ok (hQ _ _ ⟨by simp [isT, hr, h1], rfl⟩)
end
end Go.Proofs.Ytebkohdmoaginaa
