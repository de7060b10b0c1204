/-
  Law TreeTells: the walk.
-/
import Derived.Test.YthachecebkmlaaaRef9c
import Derived.Test.YthachecebkmlaaaLaw9d
set_option linter.unusedVariables false
set_option linter.unusedSimpArgs false
namespace Go.Proofs.Ythachecebkmlaaa
open Go.Ab

section
variable {X : XTab}

/-- All that is asked of one broker and another one. -/
theorem tellsStep (hX : OnlyKnown X) {h : Heap} {t : T} {v : AVal} {ys : List Int} {be : Nat} {e0 e1 e2 : Int} (oy : Sl intR h v ys) (hl : ys.length ≤ 9) (oe : Ob h be [I e0, I e1, I e2]) {i : Nat} (hi : i < 3)
    (t10 : t 10 = v) (t12 : t 12 = .ptr be 0) (t13 : t 13 = I i) {k : Nat → Kn (Ex × T)} {Q : Ex × T → Heap → Prop}
    (q : ∀ (t' : T) (h' : Heap), (∀ j, j < 13 → j ≠ 11 → t' j = t j) → t' 11 = .bool true → t' 13 = I (i + 1 : Nat) → Ext [] h h' → Tells (fun m => k m .normal t' h') Q) :
    Tells (fun m => J_precentorlaw9_TreeTells_7 Try.prog (acallX Try.prog X m) m (k m) t h) Q := by
  unfold J_precentorlaw9_TreeTells_7
  have w1 : IntKind.i64.wrap ((i : Int) + 1) = i + 1 := wrap_id (by omega) (by omega)
  obtain ⟨a, b, ha, hb⟩ : ∃ a b : Int, (∀ g : Heap, Ob g be [I e0, I e1, I e2] → ld1 g (.ptr be (0 + i * 1)) = some (I a)) ∧ ∀ g : Heap, Ob g be [I e0, I e1, I e2] → ld1 g (.ptr be (0 + (((i : Int) + 1).tmod 3).toNat * 1)) = some (I b) := by
    have : i = 0 ∨ i = 1 ∨ i = 2 := by omega
    rcases this with rfl | rfl | rfl
    · exact ⟨e0, e1, fun g o => by simp [o.1], fun g o => by simp [o.1, show ((0 : Int) + 1).tmod 3 = 1 from rfl]⟩
    · exact ⟨e1, e2, fun g o => by simp [o.1], fun g o => by simp [o.1, show ((1 : Int) + 1).tmod 3 = 2 from rfl]⟩
    · exact ⟨e2, e0, fun g o => by simp [o.1], fun g o => by simp [o.1, show ((2 : Int) + 1).tmod 3 = 0 from rfl]⟩
  have i1 : ixpR 3 1 (.ptr be 0) (I i) = some (.ptr be (0 + i * 1)) := by
    simp only [ixpR]; rw [if_pos ⟨by omega, by omega⟩]; rfl
  have m0 : 0 ≤ ((i : Int) + 1).tmod 3 := Int.tmod_nonneg _ (by omega)
  have m1 : ((i : Int) + 1).tmod 3 < 3 := Int.tmod_lt_of_pos _ (by omega)
  have i2 : ixpR 3 1 (.ptr be 0) (I (((i : Int) + 1).tmod 3)) = some (.ptr be (0 + (((i : Int) + 1).tmod 3).toNat * 1)) := by
    simp only [ixpR]; rw [if_pos ⟨m0, by omega⟩]
  have rem : ∀ t x y, aBin Try.prog .rem t x y (I ((i : Int) + 1)) (I 3) = some (I (((i : Int) + 1).tmod 3)) := fun t x y => aBin_rem _ _ _ _ _ _ _ (by decide)
  generalize 0 + i * 1 = pa at *
  generalize 0 + (((i : Int) + 1).tmod 3).toNat * 1 = pb at *
  generalize ((i : Int) + 1).tmod 3 = im at *
  have hl2 : ys.length < 2 ^ 32 := by omega
  have lenK : (kidsF ys a).length ≤ 9 := by
    have := kidsN_len a 0 ys
    unfold kidsF
    split
    · omega
    · simp
  have lenN : (nearF ys a).length ≤ 10 := by
    unfold nearF
    have := kidsN_len a 0 ys
    split
    · simp; split <;> simp <;> omega
    · simp
  have lenS : (sideF ys a b).length ≤ 10 := by
    unfold sideF
    have := fromN_len (fun x => decide (nextF ys a x = b)) (ys.length + 1) 0
    split
    · omega
    · simp
  have la := ha h oe
  have lb := hb h oe
  simp only [t10, t12, t13, i1, i2, lt_eq, arb_val, of_some, la, lb, arb_call, aBin_add, w1, rem]
  refine Tells.bind (tree_Near hX oy hl2 a) ?_
  rintro r1 g1 ⟨n1, x1⟩
  have z := x1
  try simp
  refine Tells.bind (ref_Near hX (oy.ext z) hl2 a) ?_
  rintro r2 g2 ⟨n2, x2⟩
  have z := z.trans x2
  try simp
  refine Tells.bind (law_same hX (n1.1.ext x2) n2.1 (by omega) (by omega)) ?_
  rintro _ g2 ⟨rfl, rfl⟩
  simp
  refine Tells.bind (tree_Kids hX (oy.ext z) hl2 a) ?_
  rintro r1 g1 ⟨n1, x1⟩
  have z := z.trans x1
  try simp
  refine Tells.bind (ref_Kids hX (oy.ext z) hl2 a) ?_
  rintro r2 g2 ⟨n2, x2⟩
  have z := z.trans x2
  try simp
  refine Tells.bind (law_same hX (n1.1.ext x2) n2.1 (by omega) (by omega)) ?_
  rintro _ g2 ⟨rfl, rfl⟩
  simp
  refine Tells.bind (tree_Next hX (oy.ext z) (by omega) a b) ?_
  rintro _ g1 ⟨rfl, x1⟩
  have z := z.trans x1
  try simp
  refine Tells.bind (ref_Next hX (oy.ext z) (by omega) a b) ?_
  rintro _ g2 ⟨rfl, x2⟩
  have z := z.trans x2
  simp
  refine Tells.bind (tree_Dist hX (oy.ext z) (by omega) a b) ?_
  rintro _ g1 ⟨rfl, x1⟩
  have z := z.trans x1
  try simp
  refine Tells.bind (ref_Dist hX (oy.ext z) (by omega) a b) ?_
  rintro _ g2 ⟨rfl, x2⟩
  have z := z.trans x2
  simp
  refine Tells.bind (tree_Side hX (oy.ext z) hl2 a b) ?_
  rintro r1 g1 ⟨n1, x1⟩
  have z := z.trans x1
  try simp
  refine Tells.bind (ref_Side hX (oy.ext z) hl2 a b) ?_
  rintro r2 g2 ⟨n2, x2⟩
  have z := z.trans x2
  try simp
  refine Tells.bind (law_same hX (n1.1.ext x2) n2.1 (by omega) (by omega)) ?_
  rintro _ g2 ⟨rfl, rfl⟩
  simp [J_precentorlaw9_TreeTells_8, t13, w1]
  refine q _ _ (fun j hj hn => ?_) (by simp) (by simp) z
  repeat rw [upd_ne _ _ _ _ (by omega)]

theorem treeTells (hX : OnlyKnown X) (hk : X F_precentorlaw9_known [] = some (.bool true)) {h : Heap} {rw_ l mv : AVal} {rs ls ms : List Int} (orw : RawInts h rw_ rs) (ol : RawInts h l ls) (odd : Int) (io : In64 odd) (om : RawInts h mv ms) :
    Tells (fun m => acallX Try.prog X m F_precentorlaw9_TreeTells [rw_, l, I odd, mv] h) fun a h' => a = .bool true := by
  refine R_precentorlaw9_TreeTells _ _ _ _ (hX _ _ rfl) ?_
  refine Tells.prot fun Q' hQ => ?_
  unfold S_precentorlaw9_TreeTells
  simp [bldR, fillR, splice, ol.sl.known, ol.sl.cells]
  refine Tells.box rfl rfl fun h1 bf f1 x1 l1 => ?_
  try simp
  refine Tells.bind (law_parents hX (orw.sl.ext x1) orw.small (RawInts.feed (ol.ext x1) f1) (by omega)) ?_
  rintro v h2 ⟨ys, oy, hl9, x2, fd2⟩
  have m2 := (om.ext x1).ext x2
  try simp
  refine Tells.bind (known_X hk h2) ?_
  rintro _ h2 ⟨rfl, rfl⟩
  simp
  refine Tells.bind (Right hX oy (by omega)) ?_
  rintro _ h2 ⟨rfl, rfl⟩
  try simp
  refine Tells.bind (RightTree hX oy (by omega)) ?_
  rintro _ h2 ⟨rfl, rfl⟩
  have w1 : IntKind.i64.wrap ((ys.length : Int) + 1) = ys.length + 1 := wrap_id (by omega) (by omega)
  have w2 : IntKind.i64.wrap ((ys.length : Int) + 2) = ys.length + 2 := wrap_id (by omega) (by omega)
  simp [oy.len, w1, w2]
  refine Tells.bind (Next hX _ ⟨by omega, by omega⟩ fd2 (by omega)) ?_
  rintro _ h3 ⟨e0, rfl, e00, e01, _, x3, fd3⟩
  have oy3 := oy.ext x3
  simp [oy3.len, w2]
  refine Tells.bind (Next hX _ ⟨by omega, by omega⟩ fd3 (by omega)) ?_
  rintro _ h4 ⟨e1, rfl, e10, e11, _, x4, fd4⟩
  have e11 := e11 (by omega)
  have w3 : IntKind.i64.wrap (e1 - 1) = e1 - 1 := wrap_id (by omega) (by omega)
  simp [w3]
  refine Tells.newSt (ds := [I e0, I (e1 - 1), I odd]) (by rfl) (by rfl) (by rfl) (by rfl) fun h5 be o5 x5 l5 => ?_
  have oy5 := (oy3.ext x4).ext x5
  have m5 := ((m2.ext x3).ext x4).ext x5
  try simp
  refine Tells.bind (Tells.loop (fun n t g => ∃ i : Nat, t 2 = I odd ∧ t 3 = mv ∧ t 10 = v ∧ t 11 = .bool true ∧ t 12 = .ptr be 0 ∧ t 13 = I i ∧ i + n = 3 ∧ Ext [] h5 g)
    (Q := fun p g => p.1 = .exit 0 ∧ p.2 2 = I odd ∧ p.2 3 = mv ∧ p.2 10 = v ∧ p.2 11 = .bool true ∧ Ext [] h5 g) ?_ 3 _ _ ?_) ?_
  · rintro n t g ⟨i, t2, t3, t10, t11, t12, t13, hi, z⟩
    refine Tells.prot fun Q2 hQ2 => ?_
    unfold L_precentorlaw9_TreeTells_6
    by_cases hc : i < 3
    · have hc' : (i : Int) < 3 := by omega
      simp [t13, hc', t11]
      refine tellsStep hX (oy5.ext z) (by omega) (o5.e z) hc (by simp [t10]) (by simp [t12]) (by simp [t13]) (k := fun m => okK) fun t' g' ht h11 h13 z' => ?_
      simp
      exact Tells.ok (hQ2 _ _ (.inl ⟨rfl, n - 1, by omega, i + 1, by simp [ht 2, t2], by simp [ht 3, t3], by simp [ht 10, t10], h11, by simp [ht 12, t12], h13, by omega, z.trans z'⟩))
    · have hc' : ¬ (i : Int) < 3 := by omega
      simp [t13, hc']
      exact Tells.ok (hQ2 _ _ (.inr ⟨by simp, rfl, by simp [t2], by simp [t3], by simp [t10], by simp [t11], z⟩))
  · exact ⟨0, by simp, by simp, by simp, by simp, by simp, by simp, by omega, .refl⟩
  · rintro ⟨ex, t⟩ g ⟨rfl, t2, t3, t10, t11, z⟩
    simp only at t2 t3 t10 t11
    simp [J_precentorlaw9_TreeTells_0]
    refine Tells.bind (Tells.loop (fun n t g' => ∃ (i : Nat) (q : List Int), t 2 = I odd ∧ t 3 = mv ∧ t 10 = v ∧ t 11 = .bool true ∧ t 17 = I i ∧ i + n = 7 ∧ q.length = i ∧ Gl intR g g' (t 16) q ∧ Ext [] g g')
      (Q := fun p g' => p.1 = .exit 2 ∧ p.2 2 = I odd ∧ p.2 10 = v ∧ p.2 11 = .bool true ∧ ∃ q : List Int, q.length ≤ 7 ∧ Gl intR g g' (p.2 16) q ∧ Ext [] g g') ?_ 7 _ _ ?_) ?_
    · rintro n t g' ⟨i, q, t2, t3, t10, t11, t17, hi, hq, go, y⟩
      refine Tells.prot fun Q2 hQ2 => ?_
      have om := (m5.ext z).ext y
      have oy := (oy5.ext z).ext y
      unfold L_precentorlaw9_TreeTells_3
      by_cases h1 : i < ms.length
      · have h1' : (i : Int) < ms.length := by omega
        by_cases h2 : i < 7
        · have h2' : (i : Int) < 7 := by omega
          obtain ⟨y0, hy⟩ : ∃ y, ms[i]? = some y := ⟨_, List.getElem?_eq_getElem h1⟩
          obtain ⟨bb, pp, B, q1, q2, q3⟩ := om.sl.atI hy
          have w4 : IntKind.i64.wrap ((i : Int) + 1) = i + 1 := wrap_id (by omega) (by omega)
          simp [t17, t3, om.sl.len, h1, h2', J_precentorlaw9_TreeTells_4, q1, q2, q3, t10, oy.len, w1]
          refine Tells.bind (Pick hX y0 _ ⟨by omega, by omega⟩ g') ?_
          rintro _ g' ⟨rfl, rfl⟩
          try simp
          refine Tells.app1 go (by rfl) (by rfl) (show intR.rep g' [I (pick y0 (ys.length + 1))] (pick y0 (ys.length + 1)) from rfl) (by rfl) (by rfl) (by omega) (by decide) y.next fun s3 h3 g3 x3 y3 z3 => ?_
          simp [J_precentorlaw9_TreeTells_5, t17, w4]
          exact Tells.ok (hQ2 _ _ (.inl ⟨rfl, n - 1, by omega, i + 1, q ++ [pick y0 (ys.length + 1)], by simp [t2], by simp [t3], by simp [t10], by simp [t11], by simp, by omega, by simp [hq], by simpa using g3, y3 [] y⟩))
        · have h2' : ¬ (i : Int) < 7 := by omega
          simp [t17, t3, om.sl.len, h1, h2']
          exact Tells.ok (hQ2 _ _ (.inr ⟨by simp, rfl, by simp [t2], by simp [t10], by simp [t11], q, by omega, by simpa using go, y⟩))
      · have h1' : ¬ (i : Int) < ms.length := by omega
        simp [t17, t3, om.sl.len, h1]
        exact Tells.ok (hQ2 _ _ (.inr ⟨by simp, rfl, by simp [t2], by simp [t10], by simp [t11], q, by omega, by simpa using go, y⟩))
    · exact ⟨0, [], by simp [t2], by simp [t3], by simp [t10], by simp [t11], by simp, by omega, rfl, by simpa using Gl.nil, .refl⟩
    · rintro ⟨ex, t⟩ g' ⟨rfl, t2, t10, t11, q, hq, go, y⟩
      simp only at t2 t10 t11 go
      have oy' := (oy5.ext z).ext y
      have fin : ∀ (t : T) (g2 : Heap) (qs : List Int), t 10 = v → t 11 = .bool true → Sl intR g2 (t 16) qs → qs.length ≤ 8 → Sl intR g2 v ys → Tells (fun m => J_precentorlaw9_TreeTells_2 Try.prog (acallX Try.prog X m) m (retK Try.prog [.tmp 8]) t g2) Q' := by
        intro t g2 qs t10 t11 oq hq oy
        simp [J_precentorlaw9_TreeTells_2, t10, t11]
        refine Tells.bind (tree_Place hX oy (by omega) oq (by omega)) ?_
        rintro _ g3 ⟨rfl, x3⟩
        try simp
        refine Tells.bind (ref_Place hX (oy.ext x3) (by omega) (oq.ext x3) (by omega)) ?_
        rintro _ g4 ⟨rfl, x4⟩
        simp
        exact Tells.ok (hQ _ _ rfl)
      have rem : ∀ a b c, aBin Try.prog .rem a b c (I odd) (I 9) = some (I (odd.tmod 9)) := fun a b c => aBin_rem _ _ _ _ _ _ _ (by decide)
      by_cases h9 : odd.tmod 9 = 0
      · simp [J_precentorlaw9_TreeTells_1, t2, rem, h9]
        refine Tells.app1 go (by rfl) (by rfl) (show intR.rep g' [I odd] odd from rfl) (by rfl) (by rfl) (by omega) (by decide) y.next fun s3 h3 g3 x3 y3 z3 => ?_
        try simp
        exact fin _ _ (q ++ [odd]) (by simp [t10]) (by simp [t11]) (by simpa using g3.1) (by simp; omega) ((oy5.ext z).ext (y3 [] y))
      · simp [J_precentorlaw9_TreeTells_1, t2, rem, beq_eq_false_iff_ne.2 h9]
        exact fin _ _ q (by simp [t10]) (by simp [t11]) (by simpa using go.1) (by omega) oy'
end
end Go.Proofs.Ythachecebkmlaaa
