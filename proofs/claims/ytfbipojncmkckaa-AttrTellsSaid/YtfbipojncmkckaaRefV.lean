/-
  What precentorref1's Bits, SameValue and SameAttrs tell.
-/
import Derived.Test.YtfbipojncmkckaaAttrD
import Derived.Test.YtfbipojncmkckaaSprecentorref1
set_option linter.unusedVariables false
set_option linter.unusedSimpArgs false
namespace Go.Proofs.Ytfbipojncmkckaa
open Go.Ab
section
variable {X : XTab}
theorem ref_Bits (hX : OnlyKnown X) (x : Nat) (h : Heap) : Tells (fun q => acallX Try.prog X q F_precentorref1_Bits [.flt .f64 x] h) fun r h' => r = .int .u64 (bitsF x) ∧ h' = h := by
  refine R_precentorref1_Bits _ (hX _ _ rfl) ?_
  refine Tells.prot fun Q' hQ => ?_
  unfold S_precentorref1_Bits
  cases h1 : (ford x x != some .eq) with
  | true =>
    simp [h1]
    exact Tells.ok (hQ _ _ ⟨by simp [bitsF, h1], rfl⟩)
  | false =>
    cases h2 : (ford x 0 == some .eq) with
    | true =>
      simp [h1, J_precentorref1_Bits_0, h2]
      exact Tells.ok (hQ _ _ ⟨by simp [bitsF, h1, h2], rfl⟩)
    | false =>
      simp [h1, J_precentorref1_Bits_0, h2, J_precentorref1_Bits_1, nat_bits]
      exact Tells.ok (hQ _ _ ⟨by simp [bitsF, h1, h2], rfl⟩)
theorem ref_SameValue (hX : OnlyKnown X) (v w : Vl) (h : Heap) : Tells (fun q => acallX Try.prog X q F_precentorref1_SameValue [.agg (vlC v), .agg (vlC w)] h) fun r h' => r = .bool (sameV v w) ∧ Ext [] h h' := by
  refine R_precentorref1_SameValue _ _ (hX _ _ rfl) ?_
  refine Tells.prot fun Q' hQ => ?_
  have u4 := Try.underlying4
  unfold S_precentorref1_SameValue
  try simp
  refine Tells.box rfl rfl fun h1 ba oa x1 l1 => ?_
  try simp
  refine Tells.box rfl rfl fun h2 bb ob x2 l2 => ?_
  have oa2 := oa.e x2
  have x := x1.trans x2
  by_cases c1 : v.k = w.k
  · have c1' : (v.k == w.k) = true := by simp [c1]
    by_cases c2 : v.n = w.n
    · have c2' : (v.n == w.n) = true := by simp [c2]
      simp [oa2.1, ob.1, vlC, c1, c2]
      refine Tells.cbE (ref_Bits hX v.x h2) ?_
      rintro _ h2 ⟨rfl, rfl⟩
      simp [oa2.1, ob.1, vlC]
      refine Tells.cbE (ref_Bits hX w.x h2) ?_
      rintro _ h2 ⟨rfl, rfl⟩
      by_cases c5 : bitsF v.x = bitsF w.x
      · have c5' : (bitsF v.x == bitsF w.x) = true := by simp [c5]
        cases c3 : (v.s.toList == w.s.toList) with
        | true =>
          by_cases c4 : v.b = w.b
          · have c4' : (v.b == w.b) = true := by simp [c4]
            simp [oa2.1, ob.1, vlC, c5, c3, c4, u4]
            exact Tells.ok (hQ _ _ ⟨by simp [sameV, c1', c2', c3, c4', c5'], x⟩)
          · have c4' : (v.b == w.b) = false := beq_eq_false_iff_ne.2 c4
            simp [oa2.1, ob.1, vlC, c5, c3, c4', u4]
            exact Tells.ok (hQ _ _ ⟨by simp [sameV, c1', c2', c3, c4', c5'], x⟩)
        | false =>
          simp [oa2.1, ob.1, vlC, c5, c3]
          exact Tells.ok (hQ _ _ ⟨by simp [sameV, c1', c2', c3], x⟩)
      · have c5' : (bitsF v.x == bitsF w.x) = false := beq_eq_false_iff_ne.2 c5
        simp [oa2.1, ob.1, vlC, c5']
        exact Tells.ok (hQ _ _ ⟨by simp [sameV, c1', c2', c5'], x⟩)
    · have c2' : (v.n == w.n) = false := beq_eq_false_iff_ne.2 c2
      simp [oa2.1, ob.1, vlC, c1, c2']
      exact Tells.ok (hQ _ _ ⟨by simp [sameV, c1', c2'], x⟩)
  · have c1' : (v.k == w.k) = false := beq_eq_false_iff_ne.2 c1
    simp [oa2.1, ob.1, vlC, c1']
    exact Tells.ok (hQ _ _ ⟨by simp [sameV, c1'], x⟩)
theorem ref_SameAttrs (hX : OnlyKnown X) {h : Heap} {v u : AVal} {l m : List Att} (o : Sl attrR h v l) (p : Sl attrR h u m) (hl : l.length < 2 ^ 60) (hm : m.length < 2 ^ 60) :
    Tells (fun q => acallX Try.prog X q F_precentorref1_SameAttrs [v, u] h) fun r h' => r = .bool (sameA l m) ∧ Ext [] h h' := by
  refine R_precentorref1_SameAttrs _ _ (hX _ _ rfl) ?_
  refine Tells.prot fun Q' hQ => ?_
  unfold S_precentorref1_SameAttrs
  by_cases hlen : l.length = m.length
  · have hb : ((l.length : Int) != m.length) = false := by simp [hlen]
    simp [o.len, p.len, hb, J_precentorref1_SameAttrs_0]
    refine Tells.bind (Tells.loop (fun n t g => ∃ i : Nat, t 0 = v ∧ t 1 = u ∧ t 5 = I i ∧ i + n = l.length ∧ Ext [] h g ∧ sameA l m = sameA (l.drop i) (m.drop i))
      (Q := fun p g => Ext [] h g ∧ ((p.1 = .exit 0 ∧ sameA l m = true) ∨ (p.1 = .ret ∧ p.2 4 = .bool false ∧ sameA l m = false))) ?_ l.length _ _ ?_) ?_
    · rintro n t g ⟨i, t0, t1, t5, hi, x, hs⟩
      refine Tells.prot fun Q2 hQ2 => ?_
      unfold L_precentorref1_SameAttrs_2
      simp [t0, t5, (o.ext x).len]
      refine Tells.cb (fun hc => ?_) (fun hc => ?_)
      · simp at hc
        obtain ⟨a, ha⟩ : ∃ a, l[i]? = some a := ⟨_, List.getElem?_eq_getElem hc⟩
        obtain ⟨b, hb⟩ : ∃ b, m[i]? = some b := ⟨_, List.getElem?_eq_getElem (by omega)⟩
        obtain ⟨b1, p1, B1, q1, q2, q3, q4, q5, q6, q7⟩ := att_at (o.ext x) ha
        obtain ⟨b2, p2, B2, r1, r2, r3, r4, r5, r6, r7⟩ := att_at (p.ext x) hb
        have w : IntKind.i64.wrap ((i : Int) + 1) = i + 1 := wrap_id (by omega) (by omega)
        rw [sameA_drop ha hb] at hs
        cases c : (a.1.toList == b.1.toList) with
        | false =>
          simp [J_precentorref1_SameAttrs_3, t0, t1, t5, q1, q2, q5, r1, r2, r5, c]
          exact Tells.ok (hQ2 _ _ (.inr ⟨by simp, x, .inr ⟨rfl, by simp, by rw [hs, c]; rfl⟩⟩))
        | true =>
          simp [J_precentorref1_SameAttrs_3, t0, t1, t5, q1, q2, q5, q6, q7, r1, r2, r5, r6, r7, c]
          refine Tells.cbE (ref_SameValue hX a.2 b.2 g) ?_
          rintro _ g2 ⟨rfl, x2⟩
          cases c2 : sameV a.2 b.2 with
          | false =>
            try simp
            exact Tells.ok (hQ2 _ _ (.inr ⟨by simp, x.trans x2, .inr ⟨rfl, by simp, by rw [hs, c, c2]; rfl⟩⟩))
          | true =>
            simp [J_precentorref1_SameAttrs_4, t5, w]
            exact Tells.ok (hQ2 _ _ (.inl ⟨rfl, n - 1, by omega, i + 1, by simp [t0], by simp [t1], by simp, by omega, x.trans x2, by rw [hs, c, c2]; rfl⟩))
      · simp at hc
        refine Tells.ok (hQ2 _ _ (.inr ⟨by simp, x, .inl ⟨rfl, ?_⟩⟩))
        rw [hs, List.drop_eq_nil_of_le (by omega), List.drop_eq_nil_of_le (by omega)]
        rfl
    · exact ⟨0, by simp, by simp, by simp, by omega, .refl, rfl⟩
    · rintro ⟨ex, t⟩ g ⟨x, ⟨rfl, hs⟩ | ⟨rfl, t4, hs⟩⟩
      · simp [J_precentorref1_SameAttrs_1]
        exact Tells.ok (hQ _ _ ⟨by rw [hs], x⟩)
      · simp only at t4
        simp [t4]
        exact Tells.ok (hQ _ _ ⟨by rw [hs], x⟩)
  · have hb : ((l.length : Int) != m.length) = true := by simp; omega
    simp [o.len, p.len, hb]
    exact Tells.ok (hQ _ _ ⟨by rw [sameA_len hlen], .refl⟩)
end
end Go.Proofs.Ytfbipojncmkckaa
