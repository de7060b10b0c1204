/-
  What precentorhand's Tree tells.
-/
import Derived.Test.YtebkohdmoaginaaHand0
import Derived.Test.YtebkohdmoaginaaB2
set_option linter.unusedVariables false
set_option linter.unusedSimpArgs false
namespace Go.Proofs.Ytebkohdmoaginaa
open Go.Ab

section
variable {X : XTab}

/-- Each parent lies ahead. -/
def TreeOk (ys : List Int) : Prop := ∀ (i : Nat) y, ys[i]? = some y → 0 ≤ y ∧ y ≤ i
theorem TreeOk.app {ys : List Int} {x : Int} (h : TreeOk ys) (h0 : 0 ≤ x) (h1 : x ≤ ys.length) : TreeOk (ys ++ [x]) := by
  intro i y hi
  rcases Nat.lt_or_ge i ys.length with k1 | k1
  · rw [List.getElem?_append_left k1] at hi; exact h i y hi
  · rw [List.getElem?_append_right k1] at hi
    have : i - ys.length = 0 := by
      cases hd : i - ys.length with
      | zero => rfl
      | succ m => rw [hd] at hi; simp at hi
    rw [this] at hi
    simp at hi
    subst hi
    exact ⟨h0, by omega⟩

theorem Tree (hX : OnlyKnown X) (most : Int) (hm : In64 most) (hm2 : most ≤ 1000) {h : Heap} {bf k : Nat} (f : Feed h bf k) (hk : k < 2 ^ 61) :
    Tells (fun q => acallX Try.prog X q F_precentorhand_Feed_Tree [.ptr bf 0, I most] h) fun v h' => ∃ ys : List Int, Gl intR h h' v ys ∧ TreeOk ys ∧ (1 ≤ most → (ys.length : Int) < most) ∧ ys.length ≤ 1000 ∧
      Ext [bf] h h' ∧ Feed h' bf (k + 1001) := by
  refine R_precentorhand_Feed_Tree _ _ (hX _ _ rfl) ?_
  refine Tells.prot fun Q' hQ => ?_
  unfold S_precentorhand_Feed_Tree
  simp
  refine Tells.bind (Next hX most hm f (by omega)) ?_
  rintro v h1 ⟨r, rfl, r0, r1, r2, e1, f1⟩
  have rb : r ≤ 1000 := by
    rcases Int.lt_or_le most 1 with q | q
    · rw [r2 q]; decide
    · have := r1 q; omega
  refine Tells.bind (Tells.loop (fun n t g => ∃ ys : List Int, t 0 = .ptr bf 0 ∧ t 6 = I (r - ys.length) ∧ Gl intR h g (t 5) ys ∧ TreeOk ys ∧ ys.length + n = r.toNat ∧ Ext [bf] h g ∧ Feed g bf (k + 1 + ys.length))
      (Q := fun p g => p.1 = .exit 0 ∧ ∃ ys : List Int, Gl intR h g (p.2 5) ys ∧ TreeOk ys ∧ ys.length = r.toNat ∧ Ext [bf] h g ∧ Feed g bf (k + 1 + ys.length)) ?_ r.toNat _ _ ?_) ?_
  · rintro n t g ⟨ys, t0, t6, o, hy, hn, e, fd⟩
    refine Tells.prot fun Q2 hQ2 => ?_
    unfold L_precentorhand_Feed_Tree_1
    simp [t6]
    refine Tells.cb (fun hc => ?_) (fun hc => ?_)
    · simp at hc
      have w : IntKind.i64.wrap ((ys.length : Int) + 1) = ys.length + 1 := wrap_id (by omega) (by omega)
      simp [J_precentorhand_Feed_Tree_2, t0, o.1.len, w]
      refine Tells.bind (Next hX _ ⟨by omega, by omega⟩ fd (by omega)) ?_
      rintro v h2 ⟨x, rfl, x0, x1, x2, e2, f2⟩
      have o2 := o.extO e2 (by simp [fd.m])
      try simp
      refine Tells.app1 o2 (by rfl) (by rfl) (show intR.rep h2 [I x] x from rfl) (by rfl) (by rfl) (by omega) (by decide) (e.trans e2).next fun s' h3 g3 x3 y3 z3 => ?_
      have w2 : IntKind.i64.wrap (r - (ys.length : Int) - 1) = r - (ys.length + 1) := by rw [wrap_id (by omega) (by omega)]; omega
      have f3 := f2.ext x3 fun q => by have := o2.1.blk _ q; rw [f2.m] at this; cases this.1
      simp [J_precentorhand_Feed_Tree_3, t6, w2]
      have := x1 (by omega)
      exact Tells.ok (hQ2 _ _ (.inl ⟨rfl, n - 1, by omega, ys ++ [x], by simp [t0], by simp, by simpa using g3, hy.app x0 (by omega), by simp; omega, y3 _ (e.trans e2), by simpa [Nat.add_assoc] using f3⟩))
    · simp at hc
      exact Tells.ok (hQ2 _ _ (.inr ⟨by simp, rfl, ys, by simpa using o, hy, by omega, e, fd⟩))
  · exact ⟨[], by simp, by simp, by simpa using Gl.nil, by simp [TreeOk], by simp, e1, f1⟩
  · rintro ⟨ex, t⟩ g ⟨rfl, ys, o, hy, hn, e, fd⟩
    simp [J_precentorhand_Feed_Tree_0]
    refine Tells.ok (hQ _ _ ⟨ys, by simpa using o, hy, fun q => ?_, ?_, e, fd.mono (by omega)⟩)
    · have := r1 q; omega
    · omega

end
end Go.Proofs.Ytebkohdmoaginaa
