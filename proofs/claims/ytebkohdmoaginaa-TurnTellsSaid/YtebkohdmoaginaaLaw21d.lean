/-
  Law TurnTells: the walk, whole.
-/
import Derived.Test.YtebkohdmoaginaaLaw21c
set_option linter.unusedVariables false
set_option linter.unusedSimpArgs false
namespace Go.Proofs.Ytebkohdmoaginaa
open Go.Ab

section
variable {X : XTab} {h : Heap} {v : AVal} {ys : List Int} {b : Int} {bf bt br : Nat}

theorem ite_bool {α : Type} (b : Int) (x y : α) : (if (b == 0) = true then x else y) = if b = 0 then x else y := by simp

theorem tells3 (hX : OnlyKnown X) {t : T} {n : Nat} (hn : n < 40) (ok : TreeOk ys) (h7 : ys.length ≤ 7) (hT : isT ys b = true)
    (d : DuoE h v ys b bf bt br n) (t5 : t 5 = .ptr bf 0) (t6 : t 6 = v) (t7 : t 7 = .ptr bt 0) (t8 : t 8 = I 0) (t9 : t 9 = .ptr br 0) (t11 : t 11 = I n) {Q : Ex × T → Heap → Prop}
    (q : ∀ (t' : T) (h' : Heap), t' 5 = .ptr bf 0 → t' 6 = v → t' 7 = .ptr bt 0 → t' 8 = I 0 → t' 9 = .ptr br 0 → t' 11 = I (n + 1 : Nat) → DuoE h' v ys b bf bt br (n + 1) → Q (.normal, t') h') :
    Tells (fun m => J_precentorlaw21_TurnTells_3 Try.prog (acallX Try.prog X m) m okK t h) Q := by
  have u4 := Try.underlying4
  obtain ⟨b0, bl⟩ := (isT_ok hT).2.2
  obtain ⟨bq, kv, qs, ep, st, rd, pv, cs, sv, S, rv, d, he, he2, hcl⟩ := d
  unfold J_precentorlaw21_TurnTells_3
  simp [t9, d.r.o.1, nckR, t5]
  refine Tells.cbE (Next hX 6 ⟨by decide, by decide⟩ d.f (by omega)) ?_
  rintro _ h1 ⟨z, rfl, z0, z1, _, x1, f1⟩
  have z1 := z1 (by omega)
  have d1 := d.feed x1 f1
  have quo : ∀ t x y, aBin Try.prog .quo t x y (I z) (I 4) = some (I (IntKind.i64.wrap (z.tdiv 4))) := fun t x y => aBin_quo _ _ _ _ _ _ _ (by decide)
  have hz : z.tdiv 4 = 0 ∨ z.tdiv 4 = 1 := by
    rw [Int.tdiv_eq_ediv_of_nonneg z0]; omega
  have w2 : IntKind.i64.wrap (z.tdiv 4) = z.tdiv 4 := wrap_id (by omega) (by omega)
  have w3 : IntKind.i64.wrap (ep + z.tdiv 4) = ep + z.tdiv 4 := wrap_id (by omega) (by omega)
  have w4 : IntKind.i64.wrap ((n : Int) + 1) = n + 1 := wrap_id (by omega) (by omega)
  simp [d1.r.o.1, quo, w2, w3, t5]
  generalize hE : ep + z.tdiv 4 = E at *
  have hE0 : 0 ≤ E ∧ E ≤ 2 ^ 20 := by omega
  refine Tells.bind (Next hX 8 ⟨by decide, by decide⟩ f1 (by omega)) ?_
  rintro _ h2 ⟨r, rfl, r0, r1, _, x2, f2⟩
  have r1 := r1 (by omega)
  have d2 := d1.feed x2 f2
  -- the end of a round
  have fin : ∀ (t' : T) (g : Heap), (∀ j, j < 12 → t' j = t j) → t' 13 = .bool true → DuoE g v ys b bf bt br (n + 1) →
      Tells (fun m => J_precentorlaw21_TurnTells_5 Try.prog (acallX Try.prog X m) m (blkK 1 (sqK (J_precentorlaw21_TurnTells_4 Try.prog (acallX Try.prog X m) m okK) okK)) t' g) Q := by
    intro t' g ht k13 ⟨bq, kv, qs, ep, st, rd, pv, cs, sv, S, rv, d, he⟩
    refine tells5 hX d (by rw [ht 7 (by decide), t7]) (by rw [ht 9 (by decide), t9]) k13 (k := fun m => blkK 1 (sqK (J_precentorlaw21_TurnTells_4 Try.prog (acallX Try.prog X m) m okK) okK)) fun t2 h2 => ?_
    have e11 : t2 11 = I n := by rw [h2 11 (by decide), ht 11 (by decide), t11]
    simp [J_precentorlaw21_TurnTells_4, e11, w4]
    refine Tells.ok (q _ _ ?_ ?_ ?_ ?_ ?_ (by simp) ⟨bq, kv, qs, ep, st, rd, pv, cs, sv, S, rv, d, he⟩)
    · simp [h2 5, ht 5, t5]
    · simp [h2 6, ht 6, t6]
    · simp [h2 7, ht 7, t7]
    · simp [h2 8, ht 8, t8]
    · simp [h2 9, ht 9, t9]
  have six : ∀ (t' : T), (∀ j, j < 12 → t' j = t j) → t' 12 = I E → t' 13 = .bool true → t' 75 = I r → (∃ q, t' 173 = .bool q) →
      Tells (fun m => J_precentorlaw21_TurnTells_6 Try.prog (acallX Try.prog X m) m (blkK 2 (sqK (J_precentorlaw21_TurnTells_5 Try.prog (acallX Try.prog X m) m (blkK 1 (sqK (J_precentorlaw21_TurnTells_4 Try.prog (acallX Try.prog X m) m okK) okK))) (blkK 1 (sqK (J_precentorlaw21_TurnTells_4 Try.prog (acallX Try.prog X m) m okK) okK)))) t' h2) Q := by
    intro t' ht k12 k13 k75 k173
    refine tells6 hX (n := n) (by omega) ok h7 hT d2 (by omega) ⟨he, by omega⟩ (by omega) (by rw [ht 5 (by decide), t5]) (by rw [ht 6 (by decide), t6]) (by rw [ht 7 (by decide), t7]) (by rw [ht 9 (by decide), t9]) k12 hE0 k13 k75 k173
      (k := fun m => blkK 2 (sqK (J_precentorlaw21_TurnTells_5 Try.prog (acallX Try.prog X m) m (blkK 1 (sqK (J_precentorlaw21_TurnTells_4 Try.prog (acallX Try.prog X m) m okK) okK))) (blkK 1 (sqK (J_precentorlaw21_TurnTells_4 Try.prog (acallX Try.prog X m) m okK) okK))))
      (fun t2 g ht2 k2 dd => ?_) fun m t h => by rw [blkK_exit, if_pos rfl]
    try simp
    exact fin _ _ (fun j hj => (ht2 j hj).trans (ht j hj)) k2 dd
  by_cases h0 : r = 0
  · simp [h0, t5]
    refine Tells.bind (Next hX 2 ⟨by decide, by decide⟩ f2 (by omega)) ?_
    rintro _ h3 ⟨y1, rfl, _, _, _, x3, f3⟩
    have d3 := d2.feed x3 f3
    simp [t5]
    refine Tells.bind (Next hX 9 ⟨by decide, by decide⟩ f3 (by omega)) ?_
    rintro _ h4 ⟨y2, rfl, _, _, _, x4, f4⟩
    have d4 := d3.feed x4 f4
    simp [bldR, fillR, splice, t11]
    refine Tells.newSt (ds := chC (y1 == 1, y2, (n : Int))) (by rfl) (by rfl) (by rfl) (by rfl) fun h5 bc oc x5 l5 => ?_
    have oc5 : Ob h5 bc [.bool (y1 == 1), I y2, I 0, I n, .nils] := oc
    have f5 := f4.e x5
    have p5 := d4.p.e x5
    have r5 := d4.r.ext x5 (by simp)
    simp [t7, oc5.1]
    refine Tells.cbE (turn_Add hX p5 (by omega) (y1 == 1, y2, (n : Int))) ?_
    rintro _ h6 ⟨rfl, ⟨pv', p6, hpb⟩, x6⟩
    have n1 := f4.lt
    have nb : bf ≠ bc := by omega
    have nbt : bt ≠ bc := by have := d4.p.o.lt; omega
    have nbr : br ≠ bc := by have := d4.r.o.lt; omega
    have hpv : ∀ bb, Ob h5 bb [.bool (y1 == 1), I y2, I 0, I n, .nils] → bb ∉ pv.blks := fun bb o => p5.g.1.ob o
    have oc6 := oc5.ext x6 (by simp; exact ⟨nbt.symm, hpv bc oc5⟩)
    have nfp : bf ∉ pv.blks := fun q => by have := (p5.g.1.blk bf q).1; rw [f5.m] at this; cases this
    have f6 := f5.ext x6 (by simp; exact ⟨d.n1, nfp⟩)
    have r6 := r5.ext x6 (by simp; exact ⟨d.n4.symm, p5.g.1.ob r5.o⟩)
    simp [t9, oc6.1, oc5.1]
    refine Tells.cbE (rturn_Add hX r6 (by omega) (y1 == 1, y2, (n : Int))) ?_
    rintro _ h7' ⟨rfl, ⟨rv', r7⟩, x7⟩
    have f7 := f6.ext x7 (by simpa using d.n3)
    have p7 := p6.eo x7 (by simpa using d.n4) (by simpa using d.n5) (by simpa using .inl r6.o.2.1)
    have hb : (b == 0) = decide (b = 0) := by by_cases q : b = 0 <;> simp [q]
    simp [u4, hb]
    refine fin _ _ (fun j hj => ?_) (by simp) ?_
    · repeat rw [upd_ne _ _ _ _ (by omega)]
    · refine ⟨bq, kv, qs, ep, st, rd, pv', if b = 0 then cs ++ [(y1 == 1, y2, (n : Int))] else cs, sv, S, rv', ⟨f7.mono (by omega), by rw [ite_bool] at p7; exact p7, r7, d.rel, d.n1, d.n2, d.n3, d.n4, d.n5⟩, he, by omega, ?_⟩
      split
      · simp; omega
      · omega
  · by_cases hr1 : r = 1
    · simp [hr1, t7]
      refine Tells.bind (turn_Begin hX d2.p) ?_
      rintro _ h3 ⟨rfl, p3, x3⟩
      have f3 := f2.ext x3 (by simpa using d.n1)
      have r3 := d2.r.ext x3 (by simpa using d.n4.symm)
      try simp [t9]
      refine Tells.bind (rturn_Begin hX r3) ?_
      rintro _ h4 ⟨rfl, r4, x4⟩
      have f4 := f3.ext x4 (by simpa using d.n3)
      have p4 := p3.eo x4 (by simpa using d.n4) (by simpa using d.n5) (by simpa using .inl r3.o.2.1)
      have hb : (b == 0) = decide (b = 0) := by by_cases q : b = 0 <;> simp [q]
      simp [u4, hb]
      refine fin _ _ (fun j hj => ?_) (by simp) ⟨bq, kv, qs, ep, _, rd, pv, cs, sv, S, rv, ⟨f4.mono (by omega), by rw [← hb] at r4; exact p4, by rw [← hb] at r4; exact r4, d.rel, d.n1, d.n2, d.n3, d.n4, d.n5⟩, he, by omega, by omega⟩
      repeat rw [upd_ne _ _ _ _ (by omega)]
    · by_cases hr2 : r = 2
      · simp [hr2, t7]
        refine Tells.bind (turn_Stop hX d2.p E) ?_
        rintro _ h3 ⟨rfl, p3, x3⟩
        have f3 := f2.ext x3 (by simpa using d.n1)
        have r3 := d2.r.ext x3 (by simpa using d.n4.symm)
        try simp [t9]
        refine Tells.bind (rturn_Stop hX r3 E) ?_
        rintro _ h4 ⟨rfl, r4, x4⟩
        have f4 := f3.ext x4 (by simpa using d.n3)
        have p4 := p3.eo x4 (by simpa using d.n4) (by simpa using d.n5) (by simpa using .inl r3.o.2.1)
        have hb : (b == 0) = decide (b = 0) := by by_cases q : b = 0 <;> simp [q]
        simp [u4, hb]
        refine fin _ _ (fun j hj => ?_) (by simp) ⟨bq, kv, qs, ep, _, rd, pv, cs, sv, S, rv, ⟨f4.mono (by omega), by rw [← hb] at r4; exact p4, by rw [← hb] at r4; exact r4, d.rel, d.n1, d.n2, d.n3, d.n4, d.n5⟩, he, by omega, by omega⟩
        repeat rw [upd_ne _ _ _ _ (by omega)]
      · have c0 : (r == 0) = false := beq_eq_false_iff_ne.2 h0
        have c1 : (r == 1) = false := beq_eq_false_iff_ne.2 hr1
        have c2 : (r == 2) = false := beq_eq_false_iff_ne.2 hr2
        by_cases hr3 : r = 3
        · have h75 := six
          subst hr3
          try simp
          exact six _ (fun j hj => by repeat rw [upd_ne _ _ _ _ (by omega)]) (by simp) (by simp) (by simp) ⟨_, by simp; rfl⟩
        · have c3 : (r == 3) = false := beq_eq_false_iff_ne.2 hr3
          by_cases hr4 : r = 4
          · subst hr4
            try simp
            exact six _ (fun j hj => by repeat rw [upd_ne _ _ _ _ (by omega)]) (by simp) (by simp) (by simp) ⟨_, by simp; rfl⟩
          · have c4 : (r == 4) = false := beq_eq_false_iff_ne.2 hr4
            simp [c0, c1, c2, c3, c4]
            exact six _ (fun j hj => by repeat rw [upd_ne _ _ _ _ (by omega)]) (by simp) (by simp) (by simp) ⟨_, by simp; rfl⟩

theorem turnTells (hX : OnlyKnown X) (hk : X F_precentorlaw21_known [] = some (.bool true)) {h : Heap} {l : AVal} {ls : List Int} (ol : RawInts h l ls) (b0 : Int) (ib : In64 b0) :
    Tells (fun m => acallX Try.prog X m F_precentorlaw21_TurnTells [l, I b0] h) fun r h' => r = .bool true := by
  refine R_precentorlaw21_TurnTells _ _ (hX _ _ rfl) ?_
  refine Tells.prot fun Q' hQ => ?_
  have u4 := Try.underlying4
  unfold S_precentorlaw21_TurnTells
  simp [bldR, fillR, splice, ol.sl.known, ol.sl.cells]
  refine Tells.box rfl rfl fun h1 bf f1 x1 l1 => ?_
  try simp
  refine Tells.bind (Tree hX 5 ⟨by omega, by omega⟩ (by omega) (RawInts.feed (ol.ext x1) f1) (by omega)) ?_
  rintro v h2 ⟨ys, gy, ok, hlt, _, x2, f2⟩
  have hl7 : ys.length ≤ 4 := by have := hlt (by omega); omega
  have oy := gy.1
  have w1 : IntKind.i64.wrap ((ys.length : Int) + 2) = ys.length + 2 := wrap_id (by omega) (by omega)
  simp [oy.len, w1]
  refine Tells.bind (Pick hX b0 _ ⟨by omega, by omega⟩ h2) ?_
  rintro _ h2 ⟨rfl, rfl⟩
  have pb := pick_lo b0 (ys.length + 2)
  have pb' := pick_hi b0 (ys.length + 2) (by omega)
  generalize pick b0 (ys.length + 2) = b at *
  try simp
  refine Tells.bind (turn_New hX oy ok (by omega) pb) ?_
  rintro a h3 ⟨x3, hp⟩
  have oy3 := oy.ext x3
  have f3 := f2.e x3
  rcases hp with ⟨hbl, bt, bq, kv, rfl, p3, lt1, lt2⟩ | ⟨hbl, rfl⟩
  · simp
    refine Tells.bind (rturn_New hX oy3 ok (by omega) pb) ?_
    rintro a' h4 ⟨x4, hr⟩
    rcases hr with ⟨_, br, rfl, r4, lt3⟩ | ⟨hbl', _⟩
    · have nf := f2.lt
      have np := p3.o.lt
      have nq := p3.q.lt
      have f4 := f3.e x4
      have p4 := p3.e x4
      try simp
      refine Tells.bind (known_X hk h4) ?_
      rintro _ h4 ⟨rfl, rfl⟩
      have hT : isT ys b = true := by
        unfold isT rightT
        simp only [Bool.and_eq_true, decide_eq_true_eq]
        refine ⟨⟨⟨(rightFrom_all ys 0).2 fun i z hz => ?_, by omega⟩, pb⟩, hbl⟩
        have := ok i z hz
        simpa using this
      simp [ptr_nil Try.underlying28, u4, J_precentorlaw21_TurnTells_0]
      refine Tells.bind (Tells.loop (fun n t g => ∃ i : Nat, t 5 = .ptr bf 0 ∧ t 6 = v ∧ t 7 = .ptr bt 0 ∧ t 8 = I 0 ∧ t 9 = .ptr br 0 ∧ t 11 = I i ∧ i + n = 40 ∧ DuoE g v ys b bf bt br i)
        (Q := fun p g => p.1 = .exit 0) ?_ 40 _ _ ?_) ?_
      · rintro n t g ⟨i, t5, t6, t7, t8, t9, t11, hi, d⟩
        refine Tells.prot fun Q2 hQ2 => ?_
        unfold L_precentorlaw21_TurnTells_2
        by_cases hc : i < 40
        · simp [t11, show (i : Int) < 40 by omega, t8]
          refine tells3 hX hc ok (by omega) hT d (by simp [t5]) (by simp [t6]) (by simp [t7]) (by simp [t8]) (by simp [t9]) (by simp [t11]) fun t' h' k5 k6 k7 k8 k9 k11 dd => ?_
          exact hQ2 _ _ (.inl ⟨rfl, n - 1, by omega, i + 1, k5, k6, k7, k8, k9, k11, by omega, dd⟩)
        · simp [t11, show ¬ (i : Int) < 40 by omega]
          exact Tells.ok (hQ2 _ _ (.inr ⟨by simp, rfl⟩))
      · exact ⟨0, by simp, by simp, by simp, by simp, by simp, by simp, by omega, bq, kv, _, 0, false, false, .nils, [], .nils, [], .nils, ⟨f4.mono (by omega), p4, r4, Rel.new _, by omega, by omega, by omega, by omega, by omega⟩, by omega, by omega, by simp⟩
      · rintro ⟨ex, t⟩ g rfl
        simp [J_precentorlaw21_TurnTells_1]
        exact Tells.ok (hQ _ _ rfl)
    · omega
  · simp
    refine Tells.bind (rturn_New hX oy3 ok (by omega) pb) ?_
    rintro a' h4 ⟨x4, hr⟩
    rcases hr with ⟨hbl', _⟩ | ⟨_, rfl⟩
    · omega
    · simp
      refine Tells.bind (known_X hk h4) ?_
      rintro _ h4 ⟨rfl, rfl⟩
      have nn : ∀ x y, aBin Try.prog .eql 28 x y .nilp .nilp = some (.bool true) := fun x y => by kernel_rfl
      simp [nn, u4, J_precentorlaw21_TurnTells_0]
      refine Tells.bind (Tells.loop (fun n t g => t 8 = I 4 ∧ t 11 = I 0) (Q := fun p g => p.1 = .exit 0) ?_ 0 _ _ ?_) ?_
      · rintro n t g ⟨t8, t11⟩
        refine Tells.prot fun Q2 hQ2 => ?_
        unfold L_precentorlaw21_TurnTells_2
        simp [t11, t8]
        exact Tells.ok (hQ2 _ _ (.inr ⟨by simp, rfl⟩))
      · exact ⟨by simp, by simp⟩
      · rintro ⟨ex, t⟩ g rfl
        simp [J_precentorlaw21_TurnTells_1]
        exact Tells.ok (hQ _ _ rfl)
end
end Go.Proofs.Ytebkohdmoaginaa
