/-
  What value.Same, value.Right and the document's own tell.
-/
import Derived.Test.YtjoniicebjpdaaaValD
import Derived.Test.YtjoniicebjpdaaaFlB
import Derived.Test.YtjoniicebjpdaaaSvalue
import Derived.Test.YtjoniicebjpdaaaSprecentorref1
set_option linter.unusedVariables false
set_option linter.unusedSimpArgs false
namespace Go.Proofs.Ytjoniicebjpdaaa
open Go.Ab

section
variable {X : XTab}

theorem value_Same (hX : OnlyKnown X) (v w : Vl) (h : Heap) : Tells (fun q => acallX Try.prog X q F_value_Same [.agg (vlC v), .agg (vlC w)] h) fun r h' => r = .bool (sameV v w) ∧ Ext [] h h' := by
  refine R_value_Same _ _ (hX _ _ rfl) ?_
  refine Tells.prot fun Q' hQ => ?_
  have u4 := Try.underlying4
  unfold S_value_Same
  try simp
  refine Tells.box rfl rfl fun h1 ba oa x1 l1 => ?_
  try simp
  refine Tells.box rfl rfl fun h2 bb ob x2 l2 => ?_
  have oa2 := oa.e x2
  have x := x1.trans x2
  by_cases c1 : v.k = w.k
  · have c1' : (v.k == w.k) = true := by simp [c1]
    by_cases c2 : v.n = w.n
    · have c2' : (v.n == w.n) = true := by simp [c2]
      cases c3 : (v.s.toList == w.s.toList) with
      | true =>
        by_cases c4 : v.b = w.b
        · have c4' : (v.b == w.b) = true := by simp [c4]
          simp [oa2.1, ob.1, vlC, c1, c2, c3, c4, u4]
          refine Tells.bind (float_Same hX v.x w.x h2) ?_
          rintro _ h3 ⟨rfl, rfl⟩
          try simp
          exact Tells.ok (hQ _ _ ⟨by simp [sameV, c1', c2', c3, c4'], x⟩)
        · have c4' : (v.b == w.b) = false := beq_eq_false_iff_ne.2 c4
          simp [oa2.1, ob.1, vlC, c1, c2, c3, c4', u4]
          exact Tells.ok (hQ _ _ ⟨by simp [sameV, c1', c2', c3, c4'], x⟩)
      | false =>
        simp [oa2.1, ob.1, vlC, c1, c2, c3]
        exact Tells.ok (hQ _ _ ⟨by simp [sameV, c1', c2', c3], x⟩)
    · have c2' : (v.n == w.n) = false := beq_eq_false_iff_ne.2 c2
      simp [oa2.1, ob.1, vlC, c1, c2']
      exact Tells.ok (hQ _ _ ⟨by simp [sameV, c1', c2'], x⟩)
  · have c1' : (v.k == w.k) = false := beq_eq_false_iff_ne.2 c1
    simp [oa2.1, ob.1, vlC, c1']
    exact Tells.ok (hQ _ _ ⟨by simp [sameV, c1'], x⟩)

theorem ref_SameValue (hX : OnlyKnown X) (v w : Vl) (h : Heap) : Tells (fun q => acallX Try.prog X q F_precentorref1_SameValue [.agg (vlC v), .agg (vlC w)] h) fun r h' => r = .bool (sameV v w) ∧ Ext [] h h' := by
  refine R_precentorref1_SameValue _ _ (hX _ _ rfl) ?_
  refine Tells.prot fun Q' hQ => ?_
  have u4 := Try.underlying4
  unfold S_precentorref1_SameValue
  try simp
  refine Tells.box rfl rfl fun h1 ba oa x1 l1 => ?_
  try simp
  refine Tells.box rfl rfl fun h2 bb ob x2 l2 => ?_
  have oa2 := oa.e x2
  have x := x1.trans x2
  by_cases c1 : v.k = w.k
  · have c1' : (v.k == w.k) = true := by simp [c1]
    by_cases c2 : v.n = w.n
    · have c2' : (v.n == w.n) = true := by simp [c2]
      simp [oa2.1, ob.1, vlC, c1, c2]
      refine Tells.cbE (ref_Bits hX v.x h2) ?_
      rintro _ h2 ⟨rfl, rfl⟩
      simp [oa2.1, ob.1, vlC]
      refine Tells.cbE (ref_Bits hX w.x h2) ?_
      rintro _ h2 ⟨rfl, rfl⟩
      by_cases c5 : bitsF v.x = bitsF w.x
      · have c5' : (bitsF v.x == bitsF w.x) = true := by simp [c5]
        cases c3 : (v.s.toList == w.s.toList) with
        | true =>
          by_cases c4 : v.b = w.b
          · have c4' : (v.b == w.b) = true := by simp [c4]
            simp [oa2.1, ob.1, vlC, c5, c3, c4, u4]
            exact Tells.ok (hQ _ _ ⟨by simp [sameV, c1', c2', c3, c4', c5'], x⟩)
          · have c4' : (v.b == w.b) = false := beq_eq_false_iff_ne.2 c4
            simp [oa2.1, ob.1, vlC, c5, c3, c4', u4]
            exact Tells.ok (hQ _ _ ⟨by simp [sameV, c1', c2', c3, c4', c5'], x⟩)
        | false =>
          simp [oa2.1, ob.1, vlC, c5, c3]
          exact Tells.ok (hQ _ _ ⟨by simp [sameV, c1', c2', c3], x⟩)
      · have c5' : (bitsF v.x == bitsF w.x) = false := beq_eq_false_iff_ne.2 c5
        simp [oa2.1, ob.1, vlC, c5']
        exact Tells.ok (hQ _ _ ⟨by simp [sameV, c1', c2', c5'], x⟩)
    · have c2' : (v.n == w.n) = false := beq_eq_false_iff_ne.2 c2
      simp [oa2.1, ob.1, vlC, c1, c2']
      exact Tells.ok (hQ _ _ ⟨by simp [sameV, c1', c2'], x⟩)
  · have c1' : (v.k == w.k) = false := beq_eq_false_iff_ne.2 c1
    simp [oa2.1, ob.1, vlC, c1']
    exact Tells.ok (hQ _ _ ⟨by simp [sameV, c1'], x⟩)

theorem value_RightG (hX : OnlyKnown X) (v : Vl) (h : Heap) : Tells (fun q => acallX Try.prog X q F_value_Right [.agg (vlC v)] h) fun r h' => r = .bool (rightV v) ∧ Ext [] h h' := by
  refine R_value_Right _ (hX _ _ rfl) ?_
  refine Tells.prot fun Q' hQ => ?_
  unfold S_value_Right
  try simp
  refine Tells.box rfl rfl fun h1 bv ov x1 l1 => ?_
  try simp
  have ov : Ob h1 bv (vlC v) := ov
  simp [ov.1, vlC]
  refine Tells.newSt (ds := vlC v) (by rfl) (by rfl) (by rfl) (by rfl) fun h2 br or x2 l2 => ?_
  have ov2 := ov.e x2
  try simp
  refine Tells.st1 or (by rfl) (by rfl) (by simp [vlC]) fun h3 or3 x3 => ?_
  have hne : bv ≠ br := by have := ov.lt; omega
  have ov3 := ov2.ext x3 (by simpa using hne)
  have x03 : Ext [] h h3 := (x1.trans x2).then x3 fun z hz => .inr (by have := x1.next; simp at hz; omega)
  have fin : ∀ (g : Heap) (t : T) (n : Int) (f : Nat) (s : ByteArray) (b : Bool), t 1 = .ptr bv 0 → t 3 = .ptr br 0 → Ob g bv (vlC v) → Ob g br [I 0, I n, .flt .f64 f, .str s, .bool b] → Ext [] h g → rightV v = ((n == 0 && (ford f 0 == some .eq && (s.toList == (bs []).toList && !b))) && decide (v.s.size ≤ 12)) →
      Tells (fun m => J_value_Right_0 Try.prog (acallX Try.prog X m) m (retK Try.prog [.tmp 2]) t g) Q' := by
    intro g t n f s b t1 t3 og rg xg hr
    cases hE : (n == 0 && (ford f 0 == some .eq && (s.toList == (bs []).toList && !b))) with
    | false =>
      simp [J_value_Right_0, t1, t3, rg.1, bldR, fillR, zero24, hE]
      exact Tells.ok (hQ _ _ ⟨by rw [hr, hE]; rfl, xg⟩)
    | true =>
      simp [J_value_Right_0, t1, t3, rg.1, bldR, fillR, zero24, hE, og.1, lenS, vlC]
      exact Tells.ok (hQ _ _ ⟨by rw [hr, hE]; simp; omega, xg⟩)
  have xs : ∀ {g : Heap}, Ext [br] h3 g → Ext [] h g := fun {g} e => x03.then e fun z hz => .inr (by have := x1.next; simp at hz; omega)
  have f00 : (ford 0 0 == some .eq) = true := by decide +kernel
  have hs : (v.s.toList == (bs []).toList) = s0B v := rfl
  have hx : (ford v.x 0 == some .eq) = x0B v := rfl
  by_cases k1 : v.k = 1
  · simp [ov3.1, vlC, k1]
    refine Tells.st1 or3 (by rfl) (by rfl) (by simp [vlC]) fun h4 or4 x4 => ?_
    have ov4 := ov3.ext x4 (by simpa using hne)
    try simp
    refine fin h4 _ 0 v.x v.s v.b (by simp) (by simp) ov4 or4 (xs x4) ?_
    unfold rightV
    rw [if_pos k1, hx, hs]
    cases h : s0B v
    · simp
    · simp [s0_size h]
  have b1 : (v.k == 1) = false := beq_eq_false_iff_ne.2 k1
  by_cases k2 : v.k = 2
  · simp [ov3.1, vlC, k2]
    refine Tells.st1 or3 (by rfl) (by rfl) (by simp [vlC]) fun h4 or4 x4 => ?_
    have ov4 := ov3.ext x4 (by simpa using hne)
    try simp
    refine fin h4 _ v.n 0 v.s v.b (by simp) (by simp) ov4 or4 (xs x4) ?_
    unfold rightV
    rw [if_neg k1, if_pos k2, f00, hs]
    cases h : s0B v
    · simp
    · simp [s0_size h]
  have b2 : (v.k == 2) = false := beq_eq_false_iff_ne.2 k2
  by_cases k3 : v.k = 3
  · simp [ov3.1, vlC, k3]
    refine Tells.st1 or3 (by rfl) (by rfl) (by simp [vlC]) fun h4 or4 x4 => ?_
    have ov4 := ov3.ext x4 (by simpa using hne)
    try simp
    refine fin h4 _ v.n v.x (bs []) v.b (by simp) (by simp) ov4 or4 (xs x4) ?_
    unfold rightV
    rw [if_neg k1, if_neg k2, if_pos k3, hx]
    simp [Bool.and_assoc]
  have b3 : (v.k == 3) = false := beq_eq_false_iff_ne.2 k3
  by_cases k4 : v.k = 4
  · simp [ov3.1, vlC, k4]
    refine Tells.st1 or3 (by rfl) (by rfl) (by simp [vlC]) fun h4 or4 x4 => ?_
    have ov4 := ov3.ext x4 (by simpa using hne)
    try simp
    refine fin h4 _ v.n v.x v.s false (by simp) (by simp) ov4 or4 (xs x4) ?_
    unfold rightV
    rw [if_neg k1, if_neg k2, if_neg k3, if_pos k4, hx, hs]
    cases h : s0B v
    · simp
    · simp [s0_size h]
  have b4 : (v.k == 4) = false := beq_eq_false_iff_ne.2 k4
  simp [ov3.1, vlC, b1, b2, b3, b4]
  exact Tells.ok (hQ _ _ ⟨by unfold rightV; rw [if_neg k1, if_neg k2, if_neg k3, if_neg k4], x03⟩)

theorem ref_RightValue (hX : OnlyKnown X) (v : Vl) (h : Heap) : Tells (fun q => acallX Try.prog X q F_precentorref1_RightValue [.agg (vlC v)] h) fun r h' => r = .bool (rightV v) ∧ Ext [] h h' := by
  refine R_precentorref1_RightValue _ (hX _ _ rfl) ?_
  refine Tells.prot fun Q' hQ => ?_
  have u4 := Try.underlying4
  unfold S_precentorref1_RightValue
  try simp
  refine Tells.box rfl rfl fun h1 bv ov x1 l1 => ?_
  try simp
  have ov : Ob h1 bv (vlC v) := ov
  have hs : (v.s.toList == (bs []).toList) = s0B v := rfl
  have hx : (ford v.x 0 == some .eq) = x0B v := rfl
  unfold rightV at hQ
  by_cases k1 : v.k = 1
  · rw [if_pos k1] at hQ
    simp only [ov.1, vlC, List.getElem?_cons_zero, List.getElem?_cons_succ]
    cases c1 : x0B v <;> cases c2 : s0B v <;> cases c3 : v.b <;> simp [ov.1, vlC, k1, hs, hx, c1, c2, c3] <;> exact Tells.ok (hQ _ _ ⟨by simp [c1, c2, c3], x1⟩)
  rw [if_neg k1] at hQ
  have b1 : (v.k == 1) = false := beq_eq_false_iff_ne.2 k1
  by_cases k2 : v.k = 2
  · rw [if_pos k2] at hQ
    cases c1 : (v.n == 0) <;> cases c2 : s0B v <;> cases c3 : v.b <;> simp [ov.1, vlC, k2, hs, hx, c1, c2, c3] <;> exact Tells.ok (hQ _ _ ⟨by simp [c1, c2, c3], x1⟩)
  rw [if_neg k2] at hQ
  have b2 : (v.k == 2) = false := beq_eq_false_iff_ne.2 k2
  by_cases k3 : v.k = 3
  · rw [if_pos k3] at hQ
    cases c1 : (v.n == 0) <;> cases c2 : x0B v <;> cases c3 : v.b <;> simp [ov.1, vlC, k3, hs, hx, c1, c2, c3, lenS] <;> exact Tells.ok (hQ _ _ ⟨by simp [c1, c2, c3] <;> omega, x1⟩)
  rw [if_neg k3] at hQ
  have b3 : (v.k == 3) = false := beq_eq_false_iff_ne.2 k3
  by_cases k4 : v.k = 4
  · rw [if_pos k4] at hQ
    cases c1 : (v.n == 0) <;> cases c2 : x0B v <;> cases c3 : s0B v <;> simp [ov.1, vlC, k4, hs, hx, c1, c2, c3] <;> exact Tells.ok (hQ _ _ ⟨by simp [c1, c2, c3], x1⟩)
  rw [if_neg k4] at hQ
  have b4 : (v.k == 4) = false := beq_eq_false_iff_ne.2 k4
  simp [ov.1, vlC, b1, b2, b3, b4, J_precentorref1_RightValue_0]
  exact Tells.ok (hQ _ _ ⟨rfl, x1⟩)

end
end Go.Proofs.Ytjoniicebjpdaaa
