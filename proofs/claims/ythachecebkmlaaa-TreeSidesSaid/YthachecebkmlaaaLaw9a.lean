/-
  Law TreePlaces: its closure.
-/
import Derived.Test.YthachecebkmlaaaPath3
import Derived.Test.YthachecebkmlaaaHandT
import Derived.Test.YthachecebkmlaaaRow0
import Derived.Test.YthachecebkmlaaaSprecentorlaw9
set_option linter.unusedVariables false
set_option linter.unusedSimpArgs false
namespace Go.Proofs.Ythachecebkmlaaa
open Go.Ab

/-- The sum of all ways. -/
def sumA (ys : List Int) (x : Int) (l : List Int) : Int := (l.map (distF ys x)).foldr (· + ·) 0
theorem sumA_take {ys l : List Int} {x : Int} {i : Nat} {y : Int} (h : l[i]? = some y) : sumA ys x (l.take (i + 1)) = sumA ys x (l.take i) + distF ys x y := by
  have app : ∀ (a b : List Int), sumA ys x (a ++ b) = sumA ys x a + sumA ys x b := by
    intro a b
    unfold sumA
    induction a with
    | nil => simp
    | cons c r ih => simp only [List.cons_append, List.map_cons, List.foldr_cons] at ih ⊢; rw [ih]; omega
  rw [List.take_add_one, h, app]
  simp [sumA]
theorem sumA_le (ys : List Int) (x : Int) : ∀ l : List Int, -(l.length : Int) ≤ sumA ys x l ∧ sumA ys x l ≤ 16 * l.length
  | [] => by simp [sumA]
  | y :: r => by
    have h1 := sumA_le ys x r
    have h2 := distF_le ys x y
    have e : sumA ys x (y :: r) = distF ys x y + sumA ys x r := rfl
    rw [e]
    simp only [List.length_cons]
    omega

section
variable {X : XTab}

theorem sumFn (hX : OnlyKnown X) {h : Heap} {bq bp : Nat} {v w : AVal} {ys l : List Int} (oq : Ob h bq [w]) (op : Ob h bp [v]) (o : Sl intR h v ys) (hl : ys.length ≤ 1000) (ol : Sl intR h w l) (hll : l.length ≤ 1000) (x : Int) :
    Tells (fun q => acallX Try.prog X q F_precentorlaw9_TreePlaces_1 [I x, .ptr bq 0, .ptr bp 0] h) fun r h' => r = I (sumA ys x l) ∧ Ext [] h h' := by
  refine R_precentorlaw9_TreePlaces_1 _ _ _ (hX _ _ rfl) ?_
  refine Tells.prot fun Q' hQ => ?_
  unfold S_precentorlaw9_TreePlaces_1
  simp
  refine Tells.bind (Tells.loop (fun n t g => ∃ i : Nat, t 0 = I x ∧ t 1 = .ptr bq 0 ∧ t 2 = .ptr bp 0 ∧ t 5 = I (sumA ys x (l.take i)) ∧ t 6 = I i ∧ i + n = l.length ∧ Ext [] h g)
    (Q := fun p g => p.1 = .exit 0 ∧ p.2 5 = I (sumA ys x l) ∧ Ext [] h g) ?_ l.length _ _ ?_) ?_
  · rintro n t g ⟨i, t0, t1, t2, t5, t6, hi, xx⟩
    refine Tells.prot fun Q2 hQ2 => ?_
    have oq := oq.e xx
    have op := op.e xx
    have olg := ol.ext xx
    unfold L_precentorlaw9_TreePlaces_1_1
    simp [t6, t1, oq.1, olg.len]
    refine Tells.cb (fun hc => ?_) (fun hc => ?_)
    · simp at hc
      obtain ⟨y, hy⟩ : ∃ y, l[i]? = some y := ⟨_, List.getElem?_eq_getElem hc⟩
      obtain ⟨b, p, B, q1, q2, q3⟩ := olg.atI hy
      have wi : IntKind.i64.wrap ((i : Int) + 1) = i + 1 := wrap_id (by omega) (by omega)
      have st := sumA_take (ys := ys) (x := x) hy
      have bd := sumA_le ys x (l.take (i + 1))
      have lt : (l.take (i + 1)).length ≤ 1000 := by simp; omega
      have w8 : IntKind.i64.wrap (sumA ys x (l.take i) + distF ys x y) = sumA ys x (l.take i) + distF ys x y := by rw [← st]; exact wrap_id (by omega) (by omega)
      simp [J_precentorlaw9_TreePlaces_1_2, t5, t2, op.1, t0, t1, oq.1, t6, q1, q2, q3]
      refine Tells.cbE (tree_Dist hX (o.ext xx) (by omega) x y) ?_
      rintro _ h2 ⟨rfl, x2⟩
      simp [w8, J_precentorlaw9_TreePlaces_1_3, t6, wi]
      exact Tells.ok (hQ2 _ _ (.inl ⟨rfl, n - 1, by omega, i + 1, by simp [t0], by simp [t1], by simp [t2], by rw [st]; simp, by simp, by omega, xx.trans x2⟩))
    · simp at hc
      rw [List.take_of_length_le (by omega)] at t5
      exact Tells.ok (hQ2 _ _ (.inr ⟨by simp, rfl, by simp [t5], xx⟩))
  · exact ⟨0, by simp, by simp, by simp, by simp [sumA], by simp, by omega, .refl⟩
  · rintro ⟨ex, t⟩ g ⟨rfl, t5, xx⟩
    simp only at t5
    simp [J_precentorlaw9_TreePlaces_1_0, t5]
    exact Tells.ok (hQ _ _ ⟨rfl, xx⟩)
end
end Go.Proofs.Ythachecebkmlaaa
