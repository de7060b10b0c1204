/-
  What the functions of attr, value.Same, value.Right and float.Bits tell, of attributes.
-/
import Derived.Test.YtfbipojncmkckaaAttrD
import Derived.Test.YtfbipojncmkckaaSattr
import Derived.Test.YtfbipojncmkckaaSvalue
import Derived.Test.YtfbipojncmkckaaSfloat
set_option linter.unusedVariables false
set_option linter.unusedSimpArgs false
namespace Go.Proofs.Ytfbipojncmkckaa
open Go.Ab

section
variable {X : XTab}

theorem IsNaN_ (hX : OnlyKnown X) (x : Nat) (h : Heap) : Tells (fun q => acallX Try.prog X q F_math_IsNaN [.flt .f64 x] h) fun r h' => r = .bool (ford x x != some .eq) ∧ h' = h := by
  refine R_math_IsNaN _ (hX _ _ rfl) ?_
  unfold S_math_IsNaN
  try simp
  exact Tells.ok ⟨rfl, rfl⟩
theorem float_Bits (hX : OnlyKnown X) (x : Nat) (h : Heap) : Tells (fun q => acallX Try.prog X q F_float_Bits [.flt .f64 x] h) fun r h' => r = .int .u64 (bitsF x) ∧ h' = h := by
  refine R_float_Bits _ (hX _ _ rfl) ?_
  refine Tells.prot fun Q' hQ => ?_
  unfold S_float_Bits
  try simp
  refine Tells.bind (IsNaN_ hX x h) ?_
  rintro _ h ⟨rfl, rfl⟩
  cases h1 : (ford x x != some .eq) with
  | true =>
    try simp
    exact Tells.ok (hQ _ _ ⟨by simp [bitsF, h1], rfl⟩)
  | false =>
    cases h2 : (ford x 0 == some .eq) with
    | true =>
      simp [J_float_Bits_0, h2]
      exact Tells.ok (hQ _ _ ⟨by simp [bitsF, h1, h2], rfl⟩)
    | false =>
      simp [J_float_Bits_0, h2, J_float_Bits_1, nat_bits]
      exact Tells.ok (hQ _ _ ⟨by simp [bitsF, h1, h2], rfl⟩)
theorem float_Same (hX : OnlyKnown X) (x y : Nat) (h : Heap) : Tells (fun q => acallX Try.prog X q F_float_Same [.flt .f64 x, .flt .f64 y] h) fun r h' => r = .bool (bitsF x == bitsF y) ∧ h' = h := by
  refine R_float_Same _ _ (hX _ _ rfl) ?_
  refine Tells.prot fun Q' hQ => ?_
  unfold S_float_Same
  try simp
  refine Tells.bind (float_Bits hX x h) ?_
  rintro _ h ⟨rfl, rfl⟩
  try simp
  refine Tells.bind (float_Bits hX y h) ?_
  rintro _ h ⟨rfl, rfl⟩
  try simp
  exact Tells.ok (hQ _ _ ⟨rfl, rfl⟩)
theorem value_Same (hX : OnlyKnown X) (v w : Vl) (h : Heap) : Tells (fun q => acallX Try.prog X q F_value_Same [.agg (vlC v), .agg (vlC w)] h) fun r h' => r = .bool (sameV v w) ∧ Ext [] h h' := by
  refine R_value_Same _ _ (hX _ _ rfl) ?_
  refine Tells.prot fun Q' hQ => ?_
  have u4 := Try.underlying4
  unfold S_value_Same
  try simp
  refine Tells.box rfl rfl fun h1 ba oa x1 l1 => ?_
  try simp
  refine Tells.box rfl rfl fun h2 bb ob x2 l2 => ?_
  have oa2 := oa.e x2
  have x := x1.trans x2
  by_cases c1 : v.k = w.k
  · have c1' : (v.k == w.k) = true := by simp [c1]
    by_cases c2 : v.n = w.n
    · have c2' : (v.n == w.n) = true := by simp [c2]
      cases c3 : (v.s.toList == w.s.toList) with
      | true =>
        by_cases c4 : v.b = w.b
        · have c4' : (v.b == w.b) = true := by simp [c4]
          simp [oa2.1, ob.1, vlC, c1, c2, c3, c4, u4]
          refine Tells.bind (float_Same hX v.x w.x h2) ?_
          rintro _ h3 ⟨rfl, rfl⟩
          try simp
          exact Tells.ok (hQ _ _ ⟨by simp [sameV, c1', c2', c3, c4'], x⟩)
        · have c4' : (v.b == w.b) = false := beq_eq_false_iff_ne.2 c4
          simp [oa2.1, ob.1, vlC, c1, c2, c3, c4', u4]
          exact Tells.ok (hQ _ _ ⟨by simp [sameV, c1', c2', c3, c4'], x⟩)
      | false =>
        simp [oa2.1, ob.1, vlC, c1, c2, c3]
        exact Tells.ok (hQ _ _ ⟨by simp [sameV, c1', c2', c3], x⟩)
    · have c2' : (v.n == w.n) = false := beq_eq_false_iff_ne.2 c2
      simp [oa2.1, ob.1, vlC, c1, c2']
      exact Tells.ok (hQ _ _ ⟨by simp [sameV, c1', c2'], x⟩)
  · have c1' : (v.k == w.k) = false := beq_eq_false_iff_ne.2 c1
    simp [oa2.1, ob.1, vlC, c1']
    exact Tells.ok (hQ _ _ ⟨by simp [sameV, c1'], x⟩)

theorem attr_Get (hX : OnlyKnown X) {h : Heap} {v : AVal} {ats : List Att} (o : Sl attrR h v ats) (hl : ats.length ≤ 100) (nm : ByteArray) :
    Tells (fun q => acallX Try.prog X q F_attr_Get [v, .str nm] h) fun r h' => Ext [] h h' ∧ ((∃ a, getA ats nm = some a ∧ r = .tup [.agg (vlC a.2), .bool true]) ∨ (getA ats nm = none ∧ r = .tup [.agg (vlC vl0), .bool false])) := by
  refine R_attr_Get _ _ (hX _ _ rfl) ?_
  refine Tells.prot fun Q' hQ => ?_
  unfold S_attr_Get
  try simp
  refine Tells.new fun h1 br or x1 l1 => ?_
  have or : Ob h1 br (vlC vl0) := or
  have o1 := o.ext x1
  simp [o1.len]
  refine Tells.bind (Tells.loop (fun n t g => ∃ i : Nat, t 1 = .str nm ∧ t 4 = .ptr br 0 ∧ t 5 = .bool false ∧ t 8 = v ∧ t 9 = I ats.length ∧ t 10 = I i ∧ i + n = ats.length ∧ Ob g br (vlC vl0) ∧ Ext [] h g ∧ h.next ≤ br ∧ getA ats nm = getA (ats.drop i) nm)
    (Q := fun p g => Ext [] h g ∧ p.2 4 = .ptr br 0 ∧ ((p.1 = .exit 0 ∧ getA ats nm = none ∧ Ob g br (vlC vl0)) ∨ (p.1 = .ret ∧ p.2 5 = .bool true ∧ ∃ a, getA ats nm = some a ∧ Ob g br (vlC a.2)))) ?_ ats.length _ _ ?_) ?_
  · rintro n t g ⟨i, t1, t4, t5, t8, t9, t10, hi, or, x, l, hg⟩
    refine Tells.prot fun Q2 hQ2 => ?_
    unfold L_attr_Get_1
    simp [t9, t10]
    refine Tells.cb (fun hc => ?_) (fun hc => ?_)
    · simp at hc
      obtain ⟨a, ha⟩ : ∃ a, ats[i]? = some a := ⟨_, List.getElem?_eq_getElem hc⟩
      obtain ⟨b, p, B, q1, q2, q3, q4, q5, q6, q7⟩ := att_at (o.ext x) ha
      have w : IntKind.i64.wrap ((i : Int) + 1) = i + 1 := wrap_id (by omega) (by omega)
      have hd : ats.drop i = a :: ats.drop (i + 1) := by rw [List.drop_eq_getElem_cons hc, (List.getElem?_eq_some_iff.1 ha).2]
      rw [hd] at hg
      simp [J_attr_Get_2, t8, t10, q1, q2, q3, q4]
      refine Tells.newSt (ds := attC a) (by rfl) (by rfl) (by rfl) (by rfl) fun g1 bn on xn ln => ?_
      have or1 := or.e xn
      simp [on.1, attC, t1]
      cases c : (a.1.toList == nm.toList) with
      | true =>
        simp [on.1, attC, vlC, t4]
        refine Tells.stN or1 (ds := vlC a.2) (by rfl) (by rfl) (by rfl) (by rfl) fun g2 or2 x2 => ?_
        try simp
        exact Tells.ok (hQ2 _ _ (.inr ⟨by simp, (x.trans xn).then x2 fun z hz => .inr (by simp at hz; omega), by simp [t4], .inr ⟨rfl, by simp, a, by rw [hg]; simp [getA, c], or2⟩⟩))
      | false =>
        simp [J_attr_Get_3, t10, w]
        exact Tells.ok (hQ2 _ _ (.inl ⟨rfl, n - 1, by omega, i + 1, by simp [t1], by simp [t4], by simp [t5], by simp [t8], by simp [t9], by simp, by omega, or1, x.trans xn, l, by rw [hg]; simp [getA, c]⟩))
    · simp at hc
      exact Tells.ok (hQ2 _ _ (.inr ⟨by simp, x, by simp [t4], .inl ⟨rfl, by rw [hg, List.drop_eq_nil_of_le (by omega)]; rfl, or⟩⟩))
  · exact ⟨0, by simp, by simp, by simp, by simp, by simp, by simp, by omega, or, x1, l1, rfl⟩
  · rintro ⟨ex, t⟩ g ⟨x, t4, ⟨rfl, hn, or⟩ | ⟨rfl, t5, a, ha, or⟩⟩
    · simp only at t4
      simp [J_attr_Get_0, t4, bldR, fillR]
      refine Tells.stN or (ds := vlC vl0) (by rfl) (by rfl) (by rfl) (by rfl) fun g2 or2 x2 => ?_
      simp [t4, C_attr_Get_0, or2.1]
      exact Tells.ok (hQ _ _ ⟨x.then x2 fun z hz => .inr (by simp at hz; omega), .inr ⟨hn, rfl⟩⟩)
    · simp only at t4 t5
      simp [t4, t5, C_attr_Get_0, or.1]
      exact Tells.ok (hQ _ _ ⟨x, .inl ⟨a, ha, rfl⟩⟩)

theorem attr_Same (hX : OnlyKnown X) {h : Heap} {v u : AVal} {l m : List Att} (o : Sl attrR h v l) (p : Sl attrR h u m) (hl : l.length ≤ 100) (hm : m.length ≤ 100) :
    Tells (fun q => acallX Try.prog X q F_attr_Same [v, u] h) fun r h' => r = .bool (sameA l m) ∧ Ext [] h h' := by
  refine R_attr_Same _ _ (hX _ _ rfl) ?_
  refine Tells.prot fun Q' hQ => ?_
  unfold S_attr_Same
  by_cases hlen : l.length = m.length
  · have hb : ((l.length : Int) != m.length) = false := by simp [hlen]
    simp [o.len, p.len, hb, J_attr_Same_0]
    refine Tells.bind (Tells.loop (fun n t g => ∃ i : Nat, t 0 = v ∧ t 1 = u ∧ t 12 = I l.length ∧ t 13 = I i ∧ i + n = l.length ∧ Ext [] h g ∧ sameA l m = sameA (l.drop i) (m.drop i))
      (Q := fun p g => Ext [] h g ∧ ((p.1 = .exit 0 ∧ sameA l m = true) ∨ (p.1 = .ret ∧ p.2 4 = .bool false ∧ sameA l m = false))) ?_ l.length _ _ ?_) ?_
    · rintro n t g ⟨i, t0, t1, t12, t13, hi, x, hs⟩
      refine Tells.prot fun Q2 hQ2 => ?_
      unfold L_attr_Same_2
      simp [t12, t13]
      refine Tells.cb (fun hc => ?_) (fun hc => ?_)
      · simp at hc
        obtain ⟨a, ha⟩ : ∃ a, l[i]? = some a := ⟨_, List.getElem?_eq_getElem hc⟩
        obtain ⟨b, hb⟩ : ∃ b, m[i]? = some b := ⟨_, List.getElem?_eq_getElem (by omega)⟩
        obtain ⟨b1, p1, B1, q1, q2, q3, q4, q5, q6, q7⟩ := att_at (o.ext x) ha
        obtain ⟨b2, p2, B2, r1, r2, r3, r4, r5, r6, r7⟩ := att_at (p.ext x) hb
        have w : IntKind.i64.wrap ((i : Int) + 1) = i + 1 := wrap_id (by omega) (by omega)
        rw [sameA_drop ha hb] at hs
        cases c : (a.1.toList == b.1.toList) with
        | false =>
          simp [J_attr_Same_3, t0, t1, t13, q1, q2, q5, r1, r2, r5, c]
          exact Tells.ok (hQ2 _ _ (.inr ⟨by simp, x, .inr ⟨rfl, by simp, by rw [hs, c]; rfl⟩⟩))
        | true =>
          simp [J_attr_Same_3, t0, t1, t13, q1, q2, q5, q6, q7, r1, r2, r5, r6, r7, c]
          refine Tells.cbE (value_Same hX a.2 b.2 g) ?_
          rintro _ g2 ⟨rfl, x2⟩
          cases c2 : sameV a.2 b.2 with
          | false =>
            try simp
            exact Tells.ok (hQ2 _ _ (.inr ⟨by simp, x.trans x2, .inr ⟨rfl, by simp, by rw [hs, c, c2]; rfl⟩⟩))
          | true =>
            simp [J_attr_Same_4, t13, w]
            exact Tells.ok (hQ2 _ _ (.inl ⟨rfl, n - 1, by omega, i + 1, by simp [t0], by simp [t1], by simp [t12], by simp, by omega, x.trans x2, by rw [hs, c, c2]; rfl⟩))
      · simp at hc
        refine Tells.ok (hQ2 _ _ (.inr ⟨by simp, x, .inl ⟨rfl, ?_⟩⟩))
        rw [hs, List.drop_eq_nil_of_le (by omega), List.drop_eq_nil_of_le (by omega)]
        rfl
    · exact ⟨0, by simp, by simp, by simp, by simp, by omega, .refl, rfl⟩
    · rintro ⟨ex, t⟩ g ⟨x, ⟨rfl, hs⟩ | ⟨rfl, t4, hs⟩⟩
      · simp [J_attr_Same_1]
        exact Tells.ok (hQ _ _ ⟨by rw [hs], x⟩)
      · simp only at t4
        simp [t4]
        exact Tells.ok (hQ _ _ ⟨by rw [hs], x⟩)
  · have hb : ((l.length : Int) != m.length) = true := by simp; omega
    simp [o.len, p.len, hb]
    exact Tells.ok (hQ _ _ ⟨by rw [sameA_len hlen], .refl⟩)

theorem attr_Copy (hX : OnlyKnown X) {h : Heap} {v : AVal} {l : List Att} (o : Sl attrR h v l) (hl : l.length ≤ 100) :
    Tells (fun q => acallX Try.prog X q F_attr_Copy [v] h) fun r h' => Gl attrR h h' r l ∧ Ext [] h h' ∧ Wr h h' r := by
  refine R_attr_Copy _ (hX _ _ rfl) ?_
  refine Tells.prot fun Q' hQ => ?_
  unfold S_attr_Copy
  try simp
  refine Tells.copy o (by rfl) (by omega) (by decide) fun s h1 g1 x1 w1 => ?_
  try simp
  exact Tells.ok (hQ _ _ ⟨g1, x1, w1⟩)
end
end Go.Proofs.Ytfbipojncmkckaa
