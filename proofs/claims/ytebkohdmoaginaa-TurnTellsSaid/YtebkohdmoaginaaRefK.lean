/-
  What precentorref9's has and Kids tell.
-/
import Derived.Test.YtebkohdmoaginaaPath4a
import Derived.Test.YtebkohdmoaginaaSprecentorref9
import Derived.Test.YtebkohdmoaginaaTree0
set_option linter.unusedVariables false
set_option linter.unusedSimpArgs false
namespace Go.Proofs.Ytebkohdmoaginaa
open Go.Ab

section
variable {X : XTab}

theorem ref_has (hX : OnlyKnown X) {h : Heap} {v : AVal} {ys : List Int} (o : Sl intR h v ys) (hl : ys.length < 2 ^ 62) (b : Int) :
    Tells (fun q => acallX Try.prog X q F_precentorref9_has [v, I b] h) fun r h' => r = .bool (isT ys b) ∧ h' = h := by
  refine R_precentorref9_has _ _ (hX _ _ rfl) ?_
  refine Tells.prot fun Q' hQ => ?_
  unfold S_precentorref9_has
  simp
  refine Tells.bind (RightTree hX o hl) ?_
  rintro _ h ⟨rfl, rfl⟩
  cases hr : rightT ys with
  | false =>
    simp
    exact Tells.ok (hQ _ _ ⟨by simp [isT, hr], rfl⟩)
  | true =>
    by_cases h1 : 0 ≤ b
    · simp [h1, o.len]
      exact Tells.ok (hQ _ _ ⟨by simp [isT, hr, h1], rfl⟩)
    · simp [h1]
      exact Tells.ok (hQ _ _ ⟨by simp [isT, hr, h1], rfl⟩)

theorem ref_Kids (hX : OnlyKnown X) {h : Heap} {v : AVal} {ys : List Int} (o : Sl intR h v ys) (hl : ys.length < 2 ^ 32) (b : Int) :
    Tells (fun q => acallX Try.prog X q F_precentorref9_Kids [v, I b] h) fun r h' => Gl intR h h' r (kidsF ys b) ∧ Ext [] h h' := by
  refine R_precentorref9_Kids _ _ (hX _ _ rfl) ?_
  refine Tells.prot fun Q' hQ => ?_
  unfold S_precentorref9_Kids
  simp
  refine Tells.bind (ref_has hX o (by omega) b) ?_
  rintro _ h ⟨rfl, rfl⟩
  cases hb : isT ys b with
  | false =>
    simp
    exact Tells.ok (hQ _ _ ⟨by simp [kidsF, hb]; exact Gl.nil, .refl⟩)
  | true =>
    simp [J_precentorref9_Kids_0]
    refine Tells.bind (Tells.loop (fun n t g => ∃ (i : Nat) (pre : List Int), t 0 = v ∧ t 1 = I b ∧ t 6 = I i ∧ i + n = ys.length ∧ pre.length ≤ i ∧ kidsN b 0 ys = pre ++ kidsN b i (ys.drop i) ∧ Gl intR h g (t 5) pre ∧ Ext [] h g)
      (Q := fun p g => p.1 = .exit 0 ∧ Gl intR h g (p.2 5) (kidsN b 0 ys) ∧ Ext [] h g) ?_ ys.length _ _ ?_) ?_
    · rintro n t g ⟨i, pre, t0, t1, t6, hi, pl, hk, go, x⟩
      refine Tells.prot fun Q2 hQ2 => ?_
      have og := o.ext x
      unfold L_precentorref9_Kids_2
      simp [t0, t6, og.len]
      refine Tells.cb (fun hc => ?_) (fun hc => ?_)
      · simp at hc
        obtain ⟨y, hy⟩ : ∃ y, ys[i]? = some y := ⟨_, List.getElem?_eq_getElem hc⟩
        obtain ⟨bb, pp, B, q1, q2, q3⟩ := og.atI hy
        have w : IntKind.i64.wrap ((i : Int) + 1) = i + 1 := wrap_id (by omega) (by omega)
        rw [kidsN_drop hy] at hk
        simp [J_precentorref9_Kids_3, t0, t6, q1, q2, q3, t1]
        by_cases hyb : y = b
        · rw [if_pos hyb] at hk
          simp [hyb, w]
          refine Tells.app1 go (by rfl) (by rfl) (show intR.rep g [I (i + 1)] (i + 1) from rfl) (by rfl) (by rfl) (by omega) (by decide) x.next fun s3 h3 g3 x3 y3 z3 => ?_
          simp [J_precentorref9_Kids_4, t6, w]
          exact Tells.ok (hQ2 _ _ (.inl ⟨rfl, n - 1, by omega, i + 1, pre ++ [(i : Int) + 1], by simp [t0], by simp [t1], by simp, by omega, by simp; omega, by rw [hk]; simp, by simpa using g3, y3 [] x⟩))
        · rw [if_neg hyb] at hk
          simp [beq_eq_false_iff_ne.2 hyb, J_precentorref9_Kids_4, t6, w]
          exact Tells.ok (hQ2 _ _ (.inl ⟨rfl, n - 1, by omega, i + 1, pre, by simp [t0], by simp [t1], by simp, by omega, by omega, hk, by simpa using go, x⟩))
      · simp at hc
        rw [List.drop_eq_nil_of_le (by omega)] at hk
        exact Tells.ok (hQ2 _ _ (.inr ⟨by simp, rfl, by rw [hk]; simpa [kidsN] using go, x⟩))
    · exact ⟨0, [], by simp, by simp, by simp, by omega, by simp, by simp, by simpa using Gl.nil, .refl⟩
    · rintro ⟨ex, t⟩ g ⟨rfl, go, x⟩
      simp [J_precentorref9_Kids_1]
      exact Tells.ok (hQ _ _ ⟨by simpa [kidsF, hb] using go, x⟩)

end
end Go.Proofs.Ytebkohdmoaginaa
