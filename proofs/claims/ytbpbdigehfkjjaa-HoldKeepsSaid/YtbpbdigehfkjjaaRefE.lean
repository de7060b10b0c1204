/-
  What precentorref1.SameEvent tells of two events that are alike but for their attributes.
-/
import Derived.Test.YtbpbdigehfkjjaaEv0
set_option linter.unusedVariables false
set_option linter.unusedSimpArgs false
namespace Go.Proofs.Ytbpbdigehfkjjaa
open Go.Ab
section
variable {X : XTab}
theorem ref_SameEvent (hX : OnlyKnown X) (hty : isTwo Try.prog 34 = true) {h : Heap} {x : Ev} {va vs wa ws : AVal} {m : List Att} (oa : Sl attrR h va x.ats) (os : Sl pairR h vs x.sts) (pa : Sl attrR h wa m) (ps : Sl pairR h ws x.sts)
    (l1 : x.ats.length < 2 ^ 60) (l2 : m.length < 2 ^ 60) (l3 : x.sts.length < 2 ^ 60) :
    Tells (fun q => acallX Try.prog X q F_precentorref1_SameEvent [.agg (evC x va vs), .agg (evC x wa ws)] h) fun a h' => a = .bool (sameA x.ats m) ∧ Ext [] h h' := by
  refine R_precentorref1_SameEvent _ _ (hX _ _ rfl) ?_
  refine Tells.prot fun Q' hQ => ?_
  unfold S_precentorref1_SameEvent
  try simp
  refine Tells.box (cs := evC x va vs) (by simp [evC, AVal.known, oa.known, os.known]) (by simp [evC, AVal.cells]) fun h1 b1 o1 x1 k1 => ?_
  try simp
  refine Tells.box (cs := evC x wa ws) (by simp [evC, AVal.known, pa.known, ps.known]) (by simp [evC, AVal.cells]) fun h2 b2 o2 x2 k2 => ?_
  have o12 := o1.e x2
  have e2 := x1.trans x2
  simp [o12.1, o2.1, evC, (os.ext e2).len, (ps.ext e2).len, J_precentorref1_SameEvent_0]
  refine Tells.bind (Tells.loop (fun n t g => ∃ i : Nat, t 2 = .ptr b1 0 ∧ t 3 = .ptr b2 0 ∧ t 5 = I i ∧ i + n = x.sts.length ∧ g = h2)
    (Q := fun p g => p.1 = .exit 0 ∧ p.2 2 = .ptr b1 0 ∧ p.2 3 = .ptr b2 0 ∧ g = h2) ?_ x.sts.length _ _ ?_) ?_
  · rintro n t g ⟨i, t2, t3, t5, hi, rfl⟩
    refine Tells.prot fun Q2 hQ2 => ?_
    unfold L_precentorref1_SameEvent_2
    simp [t2, t5, o12.1, evC, (os.ext e2).len]
    refine Tells.cb (fun hc => ?_) (fun hc => ?_)
    · simp at hc
      obtain ⟨⟨a, n'⟩, ha⟩ : ∃ d, x.sts[i]? = some d := ⟨_, List.getElem?_eq_getElem hc⟩
      obtain ⟨b, p, B, c, q1, q2, q3⟩ := (os.ext e2).at (n := 2) rfl (i := (i : Int)) (by omega) (by simpa using ha)
      obtain ⟨b', p', B', c', r1, r2, r3⟩ := (ps.ext e2).at (n := 2) rfl (i := (i : Int)) (by omega) (by simpa using ha)
      have q3 : c = [I a, I n'] := q3
      have r3 : c' = [I a, I n'] := r3
      have q5 := q2.get
      have q6 : p + 2 ≤ B.length := by have := q2.le; rw [q3] at this; exact this
      have q7 : (B.drop p).take 2 = [I a, I n'] := by have := q2.eq; rw [q3] at this; exact this
      have r5 := r2.get
      have r6 : p' + 2 ≤ B'.length := by have := r2.le; rw [r3] at this; exact this
      have r7 : (B'.drop p').take 2 = [I a, I n'] := by have := r2.eq; rw [r3] at this; exact this
      have w : IntKind.i64.wrap ((i : Int) + 1) = i + 1 := wrap_id (by omega) (by omega)
      have ne := fun u v => aBin_neq2 (P := Try.prog) hty u v a n' a n'
      simp only [beq_self_eq_true, Bool.and_self, Bool.not_true] at ne
      simp [J_precentorref1_SameEvent_3, t2, t3, t5, o12.1, o2.1, evC, q1, r1, q5, q6, q7, r5, r6, r7, ne, J_precentorref1_SameEvent_4, w]
      exact Tells.ok (hQ2 _ _ (.inl ⟨rfl, n - 1, by omega, i + 1, by simp [t2], by simp [t3], by simp, by omega, rfl⟩))
    · exact Tells.ok (hQ2 _ _ (.inr ⟨by simp, rfl, by simp [t2], by simp [t3], rfl⟩))
  · exact ⟨0, by simp, by simp, by simp, by omega, rfl⟩
  · rintro ⟨ex, t⟩ g ⟨rfl, t2, t3, rfl⟩
    simp only at t2 t3
    simp [J_precentorref1_SameEvent_1, t2, t3, o12.1, o2.1, evC]
    refine Tells.bind (ref_SameAttrs hX (oa.ext e2) (pa.ext e2) l1 l2) ?_
    rintro _ h3 ⟨rfl, x3⟩
    try simp
    exact Tells.ok (hQ _ _ ⟨rfl, e2.trans x3⟩)
end
end Go.Proofs.Ytbpbdigehfkjjaa
