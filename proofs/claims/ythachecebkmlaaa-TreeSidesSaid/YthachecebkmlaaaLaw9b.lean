/-
  Law TreePlaces: the walk.
-/
import Derived.Test.YthachecebkmlaaaLaw9p
set_option linter.unusedVariables false
set_option linter.unusedSimpArgs false
namespace Go.Proofs.Ythachecebkmlaaa
open Go.Ab

section
variable {X : XTab}

theorem known_X {k : FuncId} (hk : X k [] = some (.bool true)) (h : Heap) : Tells (fun q => acallX Try.prog X q k [] h) fun v h' => v = .bool true ∧ h' = h := by
  refine Tells.later ?_
  simp only [acallX, hk]
  exact Tells.ok ⟨rfl, rfl⟩
theorem RawInts.feed {h : Heap} {v : AVal} {xs : List Int} {bf : Nat} (o : RawInts h v xs) (ob : Ob h bf [v, I 0]) : Feed h bf 0 := ⟨v, 0, xs, ob, by omega, by omega, o.sl, o.small⟩
theorem enters_sum : enters Try.prog F_precentorlaw9_TreePlaces_1 = true := by kernel_rfl

theorem placesCheck (hX : OnlyKnown X) {h : Heap} {t : T} {bq bp : Nat} {v w : AVal} {ys l : List Int} {at_ : Int} (t6 : t 6 = .ptr bp 0) (t10 : t 10 = I at_) (t11 : t 11 = .fn F_precentorlaw9_TreePlaces_1 [] [.ptr bq 0, .ptr bp 0]) (t12 : t 12 = I 0) (oq : Ob h bq [w]) (op : Ob h bp [v]) (o : Sl intR h v ys) (hl : ys.length ≤ 1000) (ol : Sl intR h w l) (hll : l.length ≤ 1000)
    (best : ∀ z : Int, 0 ≤ z → z ≤ ys.length → sumA ys at_ l ≤ sumA ys z l ∧ (z < at_ → sumA ys at_ l < sumA ys z l)) :
    Tells (fun m => loopN (L_precentorlaw9_TreePlaces_4 Try.prog (acallX Try.prog X m) m) m t h) fun p g => p.1 = .exit 2 := by
  refine Tells.loop (fun n t g => ∃ x : Nat, t 6 = .ptr bp 0 ∧ t 10 = I at_ ∧ t 11 = .fn F_precentorlaw9_TreePlaces_1 [] [.ptr bq 0, .ptr bp 0] ∧ t 12 = I x ∧ x + n = ys.length + 1 ∧ Ext [] h g) ?_ (ys.length + 1) _ _ ?_
  · rintro n t g ⟨x, t6, t10, t11, t12, hn, xx⟩
    refine Tells.prot fun Q2 hQ2 => ?_
    have oq := oq.e xx
    have op := op.e xx
    have og := o.ext xx
    have olg := ol.ext xx
    unfold L_precentorlaw9_TreePlaces_4
    by_cases h1 : x ≤ ys.length
    · have h1' : (x : Int) ≤ ys.length := by omega
      have wx : IntKind.i64.wrap ((x : Int) + 1) = x + 1 := wrap_id (by omega) (by omega)
      obtain ⟨b1, b2⟩ := best x (by omega) h1'
      simp [t12, t6, op.1, og.len, h1', J_precentorlaw9_TreePlaces_5, t11, t10, clvR, enters_sum]
      refine Tells.bind (sumFn hX oq op og hl olg hll x) ?_
      rintro _ h2 ⟨rfl, x2⟩
      try simp [t12, t6, t11, t10, clvR, enters_sum]
      refine Tells.bind (sumFn hX (oq.e x2) (op.e x2) (og.ext x2) hl (olg.ext x2) hll at_) ?_
      rintro _ h3 ⟨rfl, x3⟩
      have x13 := x2.trans x3
      by_cases h2 : (x : Int) < at_
      · have b2 := b2 h2
        simp [t12, t11, t10, clvR, enters_sum, show ¬ sumA ys x l < sumA ys at_ l by omega, h2]
        refine Tells.bind (sumFn hX (oq.e x13) (op.e x13) (og.ext x13) hl (olg.ext x13) hll x) ?_
        rintro _ h4 ⟨rfl, x4⟩
        have x14 := x13.trans x4
        try simp [t12, t11, t10, clvR, enters_sum]
        refine Tells.bind (sumFn hX (oq.e x14) (op.e x14) (og.ext x14) hl (olg.ext x14) hll at_) ?_
        rintro _ h5 ⟨rfl, x5⟩
        have hne : (sumA ys x l == sumA ys at_ l) = false := beq_eq_false_iff_ne.2 (by omega)
        simp [hne, J_precentorlaw9_TreePlaces_6, t12, wx]
        exact Tells.ok (hQ2 _ _ (.inl ⟨rfl, n - 1, by omega, x + 1, by simp [t6], by simp [t10], by simp [t11], by simp, by omega, (xx.trans x14).trans x5⟩))
      · simp [t12, t10, show ¬ sumA ys x l < sumA ys at_ l by omega, h2, J_precentorlaw9_TreePlaces_6, wx]
        exact Tells.ok (hQ2 _ _ (.inl ⟨rfl, n - 1, by omega, x + 1, by simp [t6], by simp [t10], by simp [t11], by simp, by omega, xx.trans x13⟩))
    · have h1' : ¬ (x : Int) ≤ ys.length := by omega
      simp [t12, t6, op.1, og.len, h1']
      exact Tells.ok (hQ2 _ _ (.inr ⟨by simp, rfl⟩))
  · exact ⟨0, t6, t10, t11, by simpa using t12, by omega, .refl⟩
end
end Go.Proofs.Ythachecebkmlaaa
