/-
  Subscriptions without a filter: filter.Right and Copy of none; subs.clone, Has, Of.
-/
import Derived.Test.YtnbmmebhammlkaaB3
import Derived.Test.YtnbmmebhammlkaaHand0
import Derived.Test.YtnbmmebhammlkaaSfilter
import Derived.Test.YtnbmmebhammlkaaSsubs
set_option linter.unusedVariables false
set_option linter.unusedSimpArgs false
namespace Go.Proofs.Ytnbmmebhammlkaa
open Go.Ab

/-- A subscription that has no filter: client, broker, number. -/
structure Sb where
  c : Int
  b : Int
  n : Int
def sbC (x : Sb) : List AVal := [I x.c, I x.b, I x.n, .nils]
def sbR : Rp Sb := ⟨4, by decide, fun _ cs x => cs = sbC x, fun h => by rw [h]; rfl, fun h => by rw [h]; rfl, fun h _ => h⟩
def hasSb (xs : List Sb) (c n : Int) : Bool := xs.any fun x => x.c == c && x.n == n
theorem sb_at {h : Heap} {v : AVal} {xs : List Sb} (o : Sl sbR h v xs) {i : Nat} {x : Sb} (hx : xs[i]? = some x) :
    ∃ b p B, ixsR 4 v (.int .i64 (i : Int)) = some (.ptr b p) ∧ h.get b = some B ∧ p + 4 ≤ B.length ∧ (B.drop p).take 4 = sbC x ∧ B[p + 2]? = some (I x.n) := by
  obtain ⟨b, p, B, c, q1, e, r⟩ := o.at (n := 4) rfl (i := (i : Int)) (by omega) (by simpa using hx)
  have r : c = sbC x := r
  subst r
  have l := e.le
  have e0 := e.eq
  simp only [sbC, List.length_cons, List.length_nil] at l e0
  exact ⟨b, p, B, q1, e.get, by omega, e0, e.cell (k := 2) (by simp [sbC])⟩
theorem hasSb_drop {xs : List Sb} {c n : Int} {i : Nat} {x : Sb} (h : xs[i]? = some x) : hasSb (xs.drop i) c n = ((x.c == c && x.n == n) || hasSb (xs.drop (i + 1)) c n) := by
  have a := List.getElem?_eq_some_iff.1 h
  rw [List.drop_eq_getElem_cons a.1, a.2]
  rfl

section
variable {X : XTab}
theorem filter_RightN (hX : OnlyKnown X) (h : Heap) : Tells (fun q => acallX Try.prog X q F_filter_Right [.nils] h) fun r h' => r = .bool true ∧ h' = h := by
  refine R_filter_Right _ (hX _ _ rfl) ?_
  refine Tells.prot fun Q' hQ => ?_
  unfold S_filter_Right
  simp [lenL, J_filter_Right_0]
  refine Tells.bind (Tells.loop (fun n t g => t 9 = I 0 ∧ t 10 = I 0 ∧ g = h) (Q := fun p g => p.1 = .exit 0 ∧ g = h) ?_ 0 _ _ ?_) ?_
  · rintro n t g ⟨t9, t10, rfl⟩
    refine Tells.prot fun Q2 hQ2 => ?_
    unfold L_filter_Right_2
    simp [t9, t10]
    exact Tells.ok (hQ2 _ _ (.inr ⟨by simp, rfl, rfl⟩))
  · exact ⟨by simp, by simp, rfl⟩
  · rintro ⟨ex, t⟩ g ⟨rfl, rfl⟩
    simp [J_filter_Right_1]
    exact Tells.ok (hQ _ _ ⟨rfl, rfl⟩)
theorem filter_CopyN (hX : OnlyKnown X) (h : Heap) : Tells (fun q => acallX Try.prog X q F_filter_Copy [.nils] h) fun r h' => r = .nils ∧ h' = h := by
  refine R_filter_Copy _ (hX _ _ rfl) ?_
  refine Tells.prot fun Q' hQ => ?_
  have ea : ∀ by_, appR 13 by_ h .nils .nils = .val .nils h := fun _ => rfl
  unfold S_filter_Copy
  simp [ea, lenL]
  refine Tells.bind (Tells.loop (fun n t g => t 3 = .nils ∧ t 8 = I 0 ∧ t 9 = I 0 ∧ g = h) (Q := fun p g => p.1 = .exit 0 ∧ p.2 3 = .nils ∧ g = h) ?_ 0 _ _ ?_) ?_
  · rintro n t g ⟨t3, t8, t9, rfl⟩
    refine Tells.prot fun Q2 hQ2 => ?_
    unfold L_filter_Copy_1
    simp [t8, t9]
    exact Tells.ok (hQ2 _ _ (.inr ⟨by simp, rfl, by simp [t3], rfl⟩))
  · exact ⟨by simp, by simp, by simp, rfl⟩
  · rintro ⟨ex, t⟩ g ⟨rfl, t3, rfl⟩
    simp only at t3
    simp [J_filter_Copy_0, t3]
    exact Tells.ok (hQ _ _ ⟨rfl, rfl⟩)
theorem subs_cloneN (hX : OnlyKnown X) (x : Sb) (h : Heap) : Tells (fun q => acallX Try.prog X q F_subs_clone [.agg (sbC x)] h) fun r h' => r = .agg (sbC x) ∧ Ext [] h h' := by
  refine R_subs_clone _ (hX _ _ rfl) ?_
  refine Tells.prot fun Q' hQ => ?_
  unfold S_subs_clone
  try simp
  refine Tells.box (cs := sbC x) (by simp [sbC, AVal.known]) (by simp [sbC, AVal.cells]) fun h1 be oe x1 l1 => ?_
  try simp
  refine Tells.new fun h2 b2 o2 x2 l2 => ?_
  have oe2 := oe.e x2
  have hne : be ≠ b2 := by have := oe.lt; omega
  simp [oe2.1, sbC]
  refine Tells.bind (filter_CopyN hX h2) ?_
  rintro _ h2 ⟨rfl, rfl⟩
  try simp
  refine Tells.st1 oe2 (by rfl) (by rfl) (by simp [sbC]) fun h4 oe4 x4 => ?_
  have o4 : Ob h4 b2 [I 0, I 0, I 0, .nils] := o2.ext x4 (by simpa using hne.symm)
  simp [oe4.1, sbC]
  refine Tells.stN o4 (ds := sbC x) (by rfl) (by rfl) (by rfl) (by rfl) fun h5 o5 x5 => ?_
  have nx := x1.next
  simp [C_subs_clone_0, o5.1, sbC]
  exact Tells.ok (hQ _ _ ⟨rfl, ((x1.trans x2).then x4 fun z hz => .inr (by simp at hz; omega)).then x5 fun z hz => .inr (by simp at hz; omega)⟩)
theorem subs_HasN (hX : OnlyKnown X) {h : Heap} {v : AVal} {xs : List Sb} (o : Sl sbR h v xs) (hl : xs.length < 2 ^ 30) (c n : Int) :
    Tells (fun q => acallX Try.prog X q F_subs_Has [v, I c, I n] h) fun r h' => r = .bool (hasSb xs c n) ∧ Ext [] h h' := by
  refine R_subs_Has _ _ _ (hX _ _ rfl) ?_
  refine Tells.prot fun Q' hQ => ?_
  unfold S_subs_Has
  simp [o.len]
  refine Tells.bind (Tells.loop (fun m t g => ∃ i : Nat, t 1 = I c ∧ t 2 = I n ∧ t 9 = v ∧ t 10 = I xs.length ∧ t 11 = I i ∧ i + m = xs.length ∧ Ext [] h g ∧ hasSb xs c n = hasSb (xs.drop i) c n)
    (Q := fun p g => Ext [] h g ∧ ((p.1 = .exit 0 ∧ hasSb xs c n = false) ∨ (p.1 = .ret ∧ p.2 6 = .bool true ∧ hasSb xs c n = true))) ?_ xs.length _ _ ?_) ?_
  · rintro m t g ⟨i, t1, t2, t9, t10, t11, hi, x, hh⟩
    refine Tells.prot fun Q2 hQ2 => ?_
    unfold L_subs_Has_1
    simp [t10, t11]
    refine Tells.cb (fun hc => ?_) (fun hc => ?_)
    · simp at hc
      obtain ⟨y, hy⟩ : ∃ y, xs[i]? = some y := ⟨_, List.getElem?_eq_getElem hc⟩
      obtain ⟨b, p, B, q1, q2, q3, q4, q5⟩ := sb_at (o.ext x) hy
      have w : IntKind.i64.wrap ((i : Int) + 1) = i + 1 := wrap_id (by omega) (by omega)
      rw [hasSb_drop hy] at hh
      simp [J_subs_Has_2, t9, t11, q1, q2, q3, q4]
      refine Tells.newSt (ds := sbC y) (by rfl) (by rfl) (by rfl) (by rfl) fun g1 bn on xn ln => ?_
      by_cases c1 : y.c = c
      · have c1' : (y.c == c) = true := by simp [c1]
        by_cases c2 : y.n = n
        · have c2' : (y.n == n) = true := by simp [c2]
          simp [on.1, sbC, t1, t2, c1, c2]
          exact Tells.ok (hQ2 _ _ (.inr ⟨by simp, x.trans xn, .inr ⟨rfl, by simp, by rw [hh, c1', c2']; rfl⟩⟩))
        · have c2' : (y.n == n) = false := beq_eq_false_iff_ne.2 c2
          simp [on.1, sbC, t1, t2, c1, c2', J_subs_Has_3, t11, w]
          exact Tells.ok (hQ2 _ _ (.inl ⟨rfl, m - 1, by omega, i + 1, by simp [t1], by simp [t2], by simp [t9], by simp [t10], by simp, by omega, x.trans xn, by rw [hh, c1', c2']; rfl⟩))
      · have c1' : (y.c == c) = false := beq_eq_false_iff_ne.2 c1
        simp [on.1, sbC, t1, c1', J_subs_Has_3, t11, w]
        exact Tells.ok (hQ2 _ _ (.inl ⟨rfl, m - 1, by omega, i + 1, by simp [t1], by simp [t2], by simp [t9], by simp [t10], by simp, by omega, x.trans xn, by rw [hh, c1']; rfl⟩))
    · simp at hc
      exact Tells.ok (hQ2 _ _ (.inr ⟨by simp, x, .inl ⟨rfl, by rw [hh, List.drop_eq_nil_of_le (by omega)]; rfl⟩⟩))
  · exact ⟨0, by simp, by simp, by simp, by simp, by simp, by omega, .refl, rfl⟩
  · rintro ⟨ex, t⟩ g ⟨x, ⟨rfl, hh⟩ | ⟨rfl, t6, hh⟩⟩
    · simp [J_subs_Has_0]
      exact Tells.ok (hQ _ _ ⟨by rw [hh], x⟩)
    · simp only at t6
      simp [t6]
      exact Tells.ok (hQ _ _ ⟨by rw [hh], x⟩)
theorem subs_OfN (hX : OnlyKnown X) {h : Heap} {v : AVal} {xs : List Sb} (o : Sl sbR h v xs) (hl : xs.length < 2 ^ 30) (c : Int) :
    Tells (fun q => acallX Try.prog X q F_subs_Of [v, I c] h) fun r h' => Gl sbR h h' r (xs.filter fun x => x.c == c) ∧ Ext [] h h' := by
  refine R_subs_Of _ _ (hX _ _ rfl) ?_
  refine Tells.prot fun Q' hQ => ?_
  unfold S_subs_Of
  simp [o.len]
  refine Tells.bind (Tells.loop (fun m t g => ∃ i : Nat, t 1 = I c ∧ t 8 = v ∧ t 9 = I xs.length ∧ t 10 = I i ∧ i + m = xs.length ∧ Ext [] h g ∧ Gl sbR h g (t 5) ((xs.take i).filter fun x => x.c == c))
    (Q := fun p g => p.1 = .exit 0 ∧ Ext [] h g ∧ Gl sbR h g (p.2 5) (xs.filter fun x => x.c == c)) ?_ xs.length _ _ ?_) ?_
  · rintro m t g ⟨i, t1, t8, t9, t10, hi, x, gl⟩
    refine Tells.prot fun Q2 hQ2 => ?_
    unfold L_subs_Of_1
    simp [t9, t10]
    refine Tells.cb (fun hc => ?_) (fun hc => ?_)
    · simp at hc
      obtain ⟨y, hy⟩ : ∃ y, xs[i]? = some y := ⟨_, List.getElem?_eq_getElem hc⟩
      obtain ⟨b, p, B, q1, q2, q3, q4, q5⟩ := sb_at (o.ext x) hy
      have w : IntKind.i64.wrap ((i : Int) + 1) = i + 1 := wrap_id (by omega) (by omega)
      have ht : xs.take (i + 1) = xs.take i ++ [y] := by rw [List.take_add_one, hy]; rfl
      simp [J_subs_Of_2, t8, t10, q1, q2, q3, q4]
      refine Tells.newSt (ds := sbC y) (by rfl) (by rfl) (by rfl) (by rfl) fun g1 bn on xn ln => ?_
      have on1 := on.1
      simp only [sbC] at on1
      by_cases c1 : y.c = c
      · have c1' : (y.c == c) = true := by simp [c1]
        simp [on1, t1, c1]
        have hcl := subs_cloneN hX y g1
        simp only [sbC, c1] at hcl
        refine Tells.bind hcl ?_
        rintro _ g2 ⟨rfl, x2⟩
        have X2 := xn.trans x2
        try simp
        have lf : ((xs.take i).filter fun x => x.c == c).length ≤ i := Nat.le_trans (List.length_filter_le _ _) (by simp; omega)
        refine Tells.app1 (r := sbR) (gl.e X2) (by rfl) (by rfl) (show sbR.rep g2 [I c, I y.b, I y.n, .nils] y by rw [← c1]; rfl) (by rfl) (by rfl) (by omega) (by decide) (x.trans X2).next fun v3 g3 gl3 x3 y3 z3 => ?_
        simp [J_subs_Of_3, t10, w]
        exact Tells.ok (hQ2 _ _ (.inl ⟨rfl, m - 1, by omega, i + 1, by simp [t1], by simp [t8], by simp [t9], by simp, by omega, y3 _ (x.trans X2), by rw [ht, List.filter_append]; simpa [c1'] using gl3⟩))
      · have c1' : (y.c == c) = false := beq_eq_false_iff_ne.2 c1
        simp [on1, t1, c1', J_subs_Of_3, t10, w]
        exact Tells.ok (hQ2 _ _ (.inl ⟨rfl, m - 1, by omega, i + 1, by simp [t1], by simp [t8], by simp [t9], by simp, by omega, x.trans xn, by rw [ht, List.filter_append]; simpa [c1'] using gl.e xn⟩))
    · simp at hc
      rw [List.take_of_length_le (by omega)] at gl
      exact Tells.ok (hQ2 _ _ (.inr ⟨by simp, rfl, x, by simpa using gl⟩))
  · exact ⟨0, by simp, by simp, by simp, by simp, by omega, .refl, by simpa using Gl.nil⟩
  · rintro ⟨ex, t⟩ g ⟨rfl, x, gl⟩
    simp [J_subs_Of_0]
    exact Tells.ok (hQ _ _ ⟨gl, x⟩)
end
end Go.Proofs.Ytnbmmebhammlkaa
