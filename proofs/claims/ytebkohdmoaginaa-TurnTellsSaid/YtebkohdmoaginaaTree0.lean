/-
  What tree.Right and precentorref9.RightTree tell.
-/
import Derived.Test.YtebkohdmoaginaaB2
import Derived.Test.YtebkohdmoaginaaStree
import Derived.Test.YtebkohdmoaginaaSprecentorref9
set_option linter.unusedVariables false
set_option linter.unusedSimpArgs false
namespace Go.Proofs.Ytebkohdmoaginaa
open Go.Ab

def rightFrom : Nat → List Int → Bool
  | _, [] => true
  | i, x :: r => (decide (0 ≤ x) && decide (x ≤ i)) && rightFrom (i + 1) r
/-- Are these the parents of a tree's brokers? -/
def rightT (xs : List Int) : Bool := rightFrom 0 xs && decide (xs.length ≤ 7)

theorem rightFrom_all : ∀ (xs : List Int) (n : Nat), rightFrom n xs = true ↔ ∀ (i : Nat) x, xs[i]? = some x → 0 ≤ x ∧ x ≤ ((n + i : Nat) : Int)
  | [], n => by simp [rightFrom]
  | y :: r, n => by
    simp only [rightFrom, Bool.and_eq_true, decide_eq_true_eq, rightFrom_all r (n + 1)]
    constructor
    · rintro ⟨⟨a, b⟩, c⟩ i x hx
      cases i with
      | zero => simp at hx; subst hx; exact ⟨a, by omega⟩
      | succ i => have := c i x (by simpa using hx); exact ⟨this.1, by omega⟩
    · intro k
      refine ⟨?_, fun i x hx => ?_⟩
      · have := k 0 y rfl; exact ⟨this.1, by omega⟩
      · have := k (i + 1) x (by simpa using hx); exact ⟨this.1, by omega⟩
theorem rightFrom_drop {xs : List Int} {i : Nat} {x : Int} (hx : xs[i]? = some x) : rightFrom i (xs.drop i) = ((decide (0 ≤ x) && decide (x ≤ i)) && rightFrom (i + 1) (xs.drop (i + 1))) := by
  have hlt : i < xs.length := (List.getElem?_eq_some_iff.1 hx).1
  rw [List.drop_eq_getElem_cons hlt]
  have : xs[i] = x := (List.getElem?_eq_some_iff.1 hx).2
  rw [this]
  rfl

section
variable {X : XTab}

theorem Right (hX : OnlyKnown X) {h : Heap} {v : AVal} {xs : List Int} (o : Sl intR h v xs) (hl : xs.length < 2 ^ 62) :
    Tells (fun q => acallX Try.prog X q F_tree_Right [v] h) fun r h' => r = .bool (rightT xs) ∧ h' = h := by
  refine R_tree_Right _ (hX _ _ rfl) ?_
  unfold S_tree_Right
  simp [o.len]
  refine Tells.bind (Tells.loop (fun n t g => ∃ i : Nat, t 0 = v ∧ t 5 = v ∧ t 6 = I xs.length ∧ t 7 = I i ∧ i + n = xs.length ∧ rightFrom 0 xs = rightFrom i (xs.drop i) ∧ g = h)
      (Q := fun p g => g = h ∧ ((p.1 = .exit 0 ∧ rightFrom 0 xs = true ∧ p.2 0 = v) ∨ (p.1 = .ret ∧ rightFrom 0 xs = false ∧ p.2 2 = .bool false))) ?_ xs.length _ _ ?_) ?_
  · rintro n t g ⟨i, t0, t5, t6, t7, hi, hr, rfl⟩
    refine Tells.prot fun Q' hQ => ?_
    unfold L_tree_Right_1
    simp [t6, t7]
    refine Tells.cb (fun hc => ?_) (fun hc => ?_)
    · simp at hc
      obtain ⟨x, hx⟩ : ∃ x, xs[i]? = some x := ⟨_, List.getElem?_eq_getElem hc⟩
      obtain ⟨b, p, cs, a1, a2, a3⟩ := o.atI hx
      have hd := rightFrom_drop hx
      simp [J_tree_Right_2, t5, t7, a1, a2, a3]
      by_cases h1 : x < 0
      · simp [h1]
        exact Tells.ok (hQ _ _ (.inr ⟨by simp, rfl, .inr ⟨rfl, by rw [hr, hd]; simp; omega, by simp⟩⟩))
      · simp [h1]
        refine Tells.cb (fun hc2 => ?_) (fun hc2 => ?_)
        · simp at hc2
          exact Tells.ok (hQ _ _ (.inr ⟨by simp, rfl, .inr ⟨rfl, by rw [hr, hd]; simp; omega, by simp⟩⟩))
        · simp at hc2
          have w : IntKind.i64.wrap ((i : Int) + 1) = ((i + 1 : Nat) : Int) := by rw [wrap_id (by omega) (by omega)]; omega
          simp [J_tree_Right_3, t7, w]
          refine Tells.ok (hQ _ _ (.inl ⟨rfl, n - 1, by omega, i + 1, by simp [t0], by simp [t5], by simp [t6], by simp, by omega, ?_, rfl⟩))
          rw [hr, hd]
          have e1 : decide (0 ≤ x) = true := by simp; omega
          have e2 : decide (x ≤ (i : Int)) = true := by simp; omega
          rw [e1, e2]; rfl
    · simp at hc
      refine Tells.ok (hQ _ _ (.inr ⟨by simp, rfl, .inl ⟨rfl, ?_, by simp [t0]⟩⟩))
      rw [hr, List.drop_eq_nil_of_le (by omega)]; rfl
  · exact ⟨0, by simp, by simp, by simp, by simp, by omega, by simp, rfl⟩
  · rintro ⟨ex, t⟩ g ⟨rfl, q | q⟩
    · obtain ⟨rfl, q1, q2⟩ := q
      simp at q2
      simp [J_tree_Right_0, q2, o.len]
      refine Tells.ok ⟨?_, rfl⟩
      simp [rightT, q1]
      omega
    · obtain ⟨rfl, q1, q2⟩ := q
      simp at q2
      simp [q2]
      exact Tells.ok ⟨by simp [rightT, q1], rfl⟩

theorem RightTree (hX : OnlyKnown X) {h : Heap} {v : AVal} {xs : List Int} (o : Sl intR h v xs) (hl : xs.length < 2 ^ 62) :
    Tells (fun q => acallX Try.prog X q F_precentorref9_RightTree [v] h) fun r h' => r = .bool (rightT xs) ∧ h' = h := by
  refine R_precentorref9_RightTree _ (hX _ _ rfl) ?_
  unfold S_precentorref9_RightTree
  simp
  refine Tells.bind (Tells.loop (fun n t g => ∃ i : Nat, t 0 = v ∧ t 3 = I i ∧ i + n = xs.length ∧ rightFrom 0 xs = rightFrom i (xs.drop i) ∧ g = h)
      (Q := fun p g => g = h ∧ ((p.1 = .exit 0 ∧ rightFrom 0 xs = true ∧ p.2 0 = v) ∨ (p.1 = .ret ∧ rightFrom 0 xs = false ∧ p.2 2 = .bool false))) ?_ xs.length _ _ ?_) ?_
  · rintro n t g ⟨i, t0, t7, hi, hr, rfl⟩
    refine Tells.prot fun Q' hQ => ?_
    unfold L_precentorref9_RightTree_1
    simp [t0, t7, o.len]
    refine Tells.cb (fun hc => ?_) (fun hc => ?_)
    · simp at hc
      obtain ⟨x, hx⟩ : ∃ x, xs[i]? = some x := ⟨_, List.getElem?_eq_getElem hc⟩
      obtain ⟨b, p, cs, a1, a2, a3⟩ := o.atI hx
      have hd := rightFrom_drop hx
      simp [J_precentorref9_RightTree_2, t0, t7, a1, a2, a3]
      by_cases h1 : x < 0
      · simp [h1]
        exact Tells.ok (hQ _ _ (.inr ⟨by simp, rfl, .inr ⟨rfl, by rw [hr, hd]; simp; omega, by simp⟩⟩))
      · simp [h1, t0, t7, a1, a2, a3]
        refine Tells.cb (fun hc2 => ?_) (fun hc2 => ?_)
        · simp at hc2
          exact Tells.ok (hQ _ _ (.inr ⟨by simp, rfl, .inr ⟨rfl, by rw [hr, hd]; simp; omega, by simp⟩⟩))
        · simp at hc2
          have w : IntKind.i64.wrap ((i : Int) + 1) = ((i + 1 : Nat) : Int) := by rw [wrap_id (by omega) (by omega)]; omega
          simp [J_precentorref9_RightTree_3, t7, w]
          refine Tells.ok (hQ _ _ (.inl ⟨rfl, n - 1, by omega, i + 1, by simp [t0], by simp, by omega, ?_, rfl⟩))
          rw [hr, hd]
          have e1 : decide (0 ≤ x) = true := by simp; omega
          have e2 : decide (x ≤ (i : Int)) = true := by simp; omega
          rw [e1, e2]; rfl
    · simp at hc
      refine Tells.ok (hQ _ _ (.inr ⟨by simp, rfl, .inl ⟨rfl, ?_, by simp [t0]⟩⟩))
      rw [hr, List.drop_eq_nil_of_le (by omega)]; rfl
  · exact ⟨0, by simp, by simp, by omega, by simp, rfl⟩
  · rintro ⟨ex, t⟩ g ⟨rfl, q | q⟩
    · obtain ⟨rfl, q1, q2⟩ := q
      simp at q2
      simp [J_precentorref9_RightTree_0, q2, o.len]
      refine Tells.ok ⟨?_, rfl⟩
      simp [rightT, q1]
      omega
    · obtain ⟨rfl, q1, q2⟩ := q
      simp at q2
      simp [q2]
      exact Tells.ok ⟨by simp [rightT, q1], rfl⟩

end
end Go.Proofs.Ytebkohdmoaginaa
