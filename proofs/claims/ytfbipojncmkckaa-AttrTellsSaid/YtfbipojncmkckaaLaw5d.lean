/-
  attr.Right, and precentorref1's RightAttrs, Word and Get, of any attributes.
-/
import Derived.Test.YtfbipojncmkckaaLaw5c
set_option linter.unusedVariables false
set_option linter.unusedSimpArgs false
namespace Go.Proofs.Ytfbipojncmkckaa
open Go.Ab

def prevN (l : List Att) (i : Nat) : Option ByteArray := if i = 0 then none else (l[i - 1]?).map (·.1)
theorem prevN_succ {l : List Att} {i : Nat} {a : Att} (h : l[i]? = some a) : prevN l (i + 1) = some a.1 := by simp [prevN, h]
theorem rightA_drop {l : List Att} {i : Nat} {a : Att} (h : l[i]? = some a) : rightA (prevN l i) (l.drop i) = ((wordB a.1 && (rightV a.2 && !(match prevN l i with | some q => !Op.bytesLess q.toList a.1.toList | none => false))) && rightA (prevN l (i + 1)) (l.drop (i + 1))) := by
  have h1 := List.getElem?_eq_some_iff.1 h
  rw [List.drop_eq_getElem_cons h1.1, h1.2, prevN_succ h]
  rfl

section
variable {X : XTab}
theorem attr_RightG (hX : OnlyKnown X) {h : Heap} {v : AVal} {l : List Att} (o : Sl attrR h v l) (hn : ∀ a, a ∈ l → a.1.size < 2 ^ 63) (hl8 : l.length < 2 ^ 60) : Tells (fun q => acallX Try.prog X q F_attr_Right [v] h) fun r h' => r = .bool (decide (l.length ≤ 5) && rightA none l) ∧ Ext [] h h' := by
  refine R_attr_Right _ (hX _ _ rfl) ?_
  refine Tells.prot fun Q' hQ => ?_
  unfold S_attr_Right
  by_cases hl : l.length ≤ 5
  case neg =>
    simp [o.len, show (5 : Int) < l.length by omega]
    exact Tells.ok (hQ _ _ ⟨by simp [hl], .refl⟩)
  have d5 : decide (l.length ≤ 5) = true := by simpa using hl
  simp only [d5, Bool.true_and] at hQ
  simp [o.len, show ¬ (5 : Int) < l.length by omega, J_attr_Right_0]
  refine Tells.bind (Tells.loop (fun n t g => ∃ i : Nat, t 0 = v ∧ t 8 = v ∧ t 9 = I l.length ∧ t 10 = I i ∧ i + n = l.length ∧ Ext [] h g ∧ rightA none l = rightA (prevN l i) (l.drop i))
    (Q := fun p g => Ext [] h g ∧ ((p.1 = .exit 0 ∧ rightA none l = true) ∨ (p.1 = .ret ∧ p.2 2 = .bool false ∧ rightA none l = false))) ?_ l.length _ _ ?_) ?_
  · rintro n t g ⟨i, t0, t8, t9, t10, hi, x, hr⟩
    refine Tells.prot fun Q2 hQ2 => ?_
    unfold L_attr_Right_2
    simp [t9, t10]
    refine Tells.cb (fun hc => ?_) (fun hc => ?_)
    · simp at hc
      obtain ⟨a, ha⟩ : ∃ a, l[i]? = some a := ⟨_, List.getElem?_eq_getElem hc⟩
      obtain ⟨b, p, B, q1, q2, q3, q4, q5, q6, q7⟩ := att_at (o.ext x) ha
      have w : IntKind.i64.wrap ((i : Int) + 1) = i + 1 := wrap_id (by omega) (by omega)
      have hm := List.mem_of_getElem? ha
      rw [rightA_drop ha] at hr
      simp [J_attr_Right_3, t0, t8, t10, q1, q2, q3, q4]
      refine Tells.newSt (ds := attC a) (by rfl) (by rfl) (by rfl) (by rfl) fun g1 bn on xn ln => ?_
      simp [on.1, attC]
      refine Tells.cbE (attr_Word hX a.1 (hn a hm) g1) ?_
      rintro _ g1 ⟨rfl, rfl⟩
      cases c1 : wordB a.1 with
      | false =>
        simp [on.1, attC]
        exact Tells.ok (hQ2 _ _ (.inr ⟨by simp, x.trans xn, .inr ⟨rfl, by simp, by rw [hr, c1]; simp⟩⟩))
      | true =>
      simp [on.1, attC]
      refine Tells.cbE (value_RightG hX a.2 g1) ?_
      rintro _ g2 ⟨rfl, x2⟩
      have on2 := on.e x2
      have xx := (x.trans xn).trans x2
      cases c2 : rightV a.2 with
      | false =>
        try simp
        exact Tells.ok (hQ2 _ _ (.inr ⟨by simp, xx, .inr ⟨rfl, by simp, by rw [hr, c1, c2]; simp⟩⟩))
      | true =>
      by_cases hz : i = 0
      · have w1 : IntKind.i64.wrap 1 = 1 := by decide
        simp [hz, w1, J_attr_Right_4, t10, w]
        exact Tells.ok (hQ2 _ _ (.inl ⟨rfl, n - 1, by omega, i + 1, by simp [t0], by simp [t8], by simp [t9], by simp [hz], by omega, xx, by rw [hr, c1, c2]; simp [prevN, hz]⟩))
      · obtain ⟨a', ha'⟩ : ∃ a, l[i - 1]? = some a := ⟨_, List.getElem?_eq_getElem (by omega)⟩
        obtain ⟨b', p', B', r1, r2, r3, r4, r5, r6, r7⟩ := att_at (o.ext xx) ha'
        have w2 : IntKind.i64.wrap ((i : Int) - 1) = (i - 1 : Nat) := by rw [wrap_id (by omega) (by omega)]; omega
        have hp : prevN l i = some a'.1 := by simp [prevN, hz, ha']
        rw [hp] at hr
        cases c3 : Op.bytesLess a'.1.toList a.1.toList with
        | false =>
          simp [show 0 < i by omega, w2, r1, r2, r5, on2.1, attC, c3]
          exact Tells.ok (hQ2 _ _ (.inr ⟨by simp, xx, .inr ⟨rfl, by simp, by rw [hr, c1, c2]; simp [c3]⟩⟩))
        | true =>
          simp [show 0 < i by omega, w2, r1, r2, r5, on2.1, attC, c3, J_attr_Right_4, t10, w]
          exact Tells.ok (hQ2 _ _ (.inl ⟨rfl, n - 1, by omega, i + 1, by simp [t0], by simp [t8], by simp [t9], by simp, by omega, xx, by rw [hr, c1, c2]; simp [c3]⟩))
    · simp at hc
      exact Tells.ok (hQ2 _ _ (.inr ⟨by simp, x, .inl ⟨rfl, by rw [hr, List.drop_eq_nil_of_le (by omega)]; rfl⟩⟩))
  · exact ⟨0, by simp, by simp, by simp, by simp, by omega, .refl, rfl⟩
  · rintro ⟨ex, t⟩ g ⟨x, ⟨rfl, hr⟩ | ⟨rfl, t2, hr⟩⟩
    · simp [J_attr_Right_1]
      exact Tells.ok (hQ _ _ ⟨by rw [hr], x⟩)
    · simp only at t2
      simp [t2]
      exact Tells.ok (hQ _ _ ⟨by rw [hr], x⟩)

theorem ref_Word (hX : OnlyKnown X) (s : ByteArray) (hs : s.size < 2 ^ 63) (h : Heap) : Tells (fun q => acallX Try.prog X q F_precentorref1_Word [.str s] h) fun r h' => r = .bool (wordB s) ∧ h' = h := by
  refine R_precentorref1_Word _ (hX _ _ rfl) ?_
  refine Tells.prot fun Q' hQ => ?_
  have hsz : s.data.toList.length = s.size := rfl
  unfold S_precentorref1_Word
  try simp
  refine Tells.bind (Tells.loop (fun n t g => ∃ i : Nat, t 0 = .str s ∧ t 3 = I i ∧ i + n = s.size ∧ g = h ∧ s.data.toList.all letterB = (s.data.toList.drop i).all letterB)
    (Q := fun p g => g = h ∧ ((p.1 = .exit 0 ∧ p.2 0 = .str s ∧ s.data.toList.all letterB = true) ∨ (p.1 = .ret ∧ p.2 2 = .bool false ∧ s.data.toList.all letterB = false))) ?_ s.size _ _ ?_) ?_
  · rintro n t g ⟨i, t0, t3, hi, rfl, ha⟩
    refine Tells.prot fun Q2 hQ2 => ?_
    unfold L_precentorref1_Word_1
    simp [t0, t3, lenS]
    refine Tells.cb (fun hc => ?_) (fun hc => ?_)
    · simp at hc
      have w : IntKind.i64.wrap ((i : Int) + 1) = i + 1 := wrap_id (by omega) (by omega)
      have hlt : i < s.data.toList.length := by omega
      obtain ⟨b, hb⟩ : ∃ b, s.data.toList[i]? = some b := ⟨_, List.getElem?_eq_getElem hlt⟩
      have hd : s.data.toList.drop i = b :: s.data.toList.drop (i + 1) := by rw [List.drop_eq_getElem_cons hlt, (List.getElem?_eq_some_iff.1 hb).2]
      have ix : ixtR (.str s) (I i) = some (.int .u8 b.toNat) := by
        simp only [ixtR]
        rw [if_pos (by omega)]
        simp only [Int.toNat_natCast, hb]
      rw [hd, List.all_cons] at ha
      by_cases c1 : (b.toNat : Int) < 97
      · simp [J_precentorref1_Word_2, t0, t3, ix, c1]
        exact Tells.ok (hQ2 _ _ (.inr ⟨by simp, rfl, .inr ⟨rfl, by simp, by rw [ha]; simp [letterB, c1]⟩⟩))
      · by_cases c2 : 122 < (b.toNat : Int)
        · simp [J_precentorref1_Word_2, t0, t3, ix, c1, c2]
          exact Tells.ok (hQ2 _ _ (.inr ⟨by simp, rfl, .inr ⟨rfl, by simp, by rw [ha]; simp [letterB, c1, c2]⟩⟩))
        · simp [J_precentorref1_Word_2, t0, t3, ix, c1, c2, J_precentorref1_Word_3, w]
          exact Tells.ok (hQ2 _ _ (.inl ⟨rfl, n - 1, by omega, i + 1, by simp [t0], by simp, by omega, rfl, by rw [ha]; simp [letterB, c1, c2]⟩))
    · simp at hc
      exact Tells.ok (hQ2 _ _ (.inr ⟨by simp, rfl, .inl ⟨rfl, by simp [t0], by rw [ha, List.drop_eq_nil_of_le (by omega)]; rfl⟩⟩))
  · exact ⟨0, by simp, by simp, by omega, rfl, rfl⟩
  · rintro ⟨ex, t⟩ g ⟨rfl, ⟨rfl, t0, ha⟩ | ⟨rfl, t2, ha⟩⟩
    · simp only at t0
      by_cases c1 : 1 ≤ (s.size : Int)
      · simp [J_precentorref1_Word_0, t0, lenS, c1]
        exact Tells.ok (hQ _ _ ⟨by rw [wordB, ha]; simp [show 1 ≤ s.size by omega]; omega, rfl⟩)
      · have : s.size = 0 := by omega
        simp [J_precentorref1_Word_0, t0, lenS, this]
        exact Tells.ok (hQ _ _ ⟨by rw [wordB, ha]; simp [this], rfl⟩)
    · simp only at t2
      simp [t2]
      exact Tells.ok (hQ _ _ ⟨by rw [wordB, ha]; rfl, rfl⟩)

theorem ref_RightAttrs (hX : OnlyKnown X) {h : Heap} {v : AVal} {l : List Att} (o : Sl attrR h v l) (hn : ∀ a, a ∈ l → a.1.size < 2 ^ 63) (hl8 : l.length < 2 ^ 60) : Tells (fun q => acallX Try.prog X q F_precentorref1_RightAttrs [v] h) fun r h' => r = .bool (decide (l.length ≤ 5) && rightA none l) ∧ Ext [] h h' := by
  refine R_precentorref1_RightAttrs _ (hX _ _ rfl) ?_
  refine Tells.prot fun Q' hQ => ?_
  unfold S_precentorref1_RightAttrs
  try simp
  refine Tells.bind (Tells.loop (fun n t g => ∃ i : Nat, t 0 = v ∧ t 3 = I i ∧ i + n = l.length ∧ Ext [] h g ∧ rightA none l = rightA (prevN l i) (l.drop i))
    (Q := fun p g => Ext [] h g ∧ ((p.1 = .exit 0 ∧ p.2 0 = v ∧ rightA none l = true) ∨ (p.1 = .ret ∧ p.2 2 = .bool false ∧ rightA none l = false))) ?_ l.length _ _ ?_) ?_
  · rintro n t g ⟨i, t0, t3, hi, x, hr⟩
    refine Tells.prot fun Q2 hQ2 => ?_
    unfold L_precentorref1_RightAttrs_1
    simp [t0, t3, o.len]
    refine Tells.cb (fun hc => ?_) (fun hc => ?_)
    · simp at hc
      obtain ⟨a, ha⟩ : ∃ a, l[i]? = some a := ⟨_, List.getElem?_eq_getElem hc⟩
      obtain ⟨b, p, B, q1, q2, q3, q4, q5, q6, q7⟩ := att_at (o.ext x) ha
      have w : IntKind.i64.wrap ((i : Int) + 1) = i + 1 := wrap_id (by omega) (by omega)
      have hm := List.mem_of_getElem? ha
      rw [rightA_drop ha] at hr
      simp [J_precentorref1_RightAttrs_2, t0, t3, q1, q2, q5]
      refine Tells.cbE (ref_Word hX a.1 (hn a hm) g) ?_
      rintro _ g ⟨rfl, rfl⟩
      cases c1 : wordB a.1 with
      | false =>
        try simp
        exact Tells.ok (hQ2 _ _ (.inr ⟨by simp, x, .inr ⟨rfl, by simp, by rw [hr, c1]; simp⟩⟩))
      | true =>
      simp [t0, t3, q1, q2, q6, q7]
      refine Tells.cbE (ref_RightValue hX a.2 g) ?_
      rintro _ g2 ⟨rfl, x2⟩
      have xx := x.trans x2
      cases c2 : rightV a.2 with
      | false =>
        try simp
        exact Tells.ok (hQ2 _ _ (.inr ⟨by simp, xx, .inr ⟨rfl, by simp, by rw [hr, c1, c2]; simp⟩⟩))
      | true =>
      by_cases hz : i = 0
      · have w1 : IntKind.i64.wrap 1 = 1 := by decide
        simp [hz, w1, J_precentorref1_RightAttrs_3, t3, w]
        exact Tells.ok (hQ2 _ _ (.inl ⟨rfl, n - 1, by omega, i + 1, by simp [t0], by simp [hz], by omega, xx, by rw [hr, c1, c2]; simp [prevN, hz]⟩))
      · obtain ⟨a', ha'⟩ : ∃ a, l[i - 1]? = some a := ⟨_, List.getElem?_eq_getElem (by omega)⟩
        obtain ⟨b', p', B', r1, r2, r3, r4, r5, r6, r7⟩ := att_at (o.ext xx) ha'
        obtain ⟨b2, p2, B2, s1, s2, s3, s4, s5, s6, s7⟩ := att_at (o.ext xx) ha
        have w2 : IntKind.i64.wrap ((i : Int) - 1) = (i - 1 : Nat) := by rw [wrap_id (by omega) (by omega)]; omega
        have hp : prevN l i = some a'.1 := by simp [prevN, hz, ha']
        rw [hp] at hr
        cases c3 : Op.bytesLess a'.1.toList a.1.toList with
        | false =>
          simp [show 0 < i by omega, t0, t3, w2, r1, r2, r5, s1, s2, s5, c3]
          exact Tells.ok (hQ2 _ _ (.inr ⟨by simp, xx, .inr ⟨rfl, by simp, by rw [hr, c1, c2]; simp [c3]⟩⟩))
        | true =>
          simp [show 0 < i by omega, t0, t3, w2, r1, r2, r5, s1, s2, s5, c3, J_precentorref1_RightAttrs_3, w]
          exact Tells.ok (hQ2 _ _ (.inl ⟨rfl, n - 1, by omega, i + 1, by simp [t0], by simp, by omega, xx, by rw [hr, c1, c2]; simp [c3]⟩))
    · simp at hc
      exact Tells.ok (hQ2 _ _ (.inr ⟨by simp, x, .inl ⟨rfl, by simp [t0], by rw [hr, List.drop_eq_nil_of_le (by omega)]; rfl⟩⟩))
  · exact ⟨0, by simp, by simp, by omega, .refl, rfl⟩
  · rintro ⟨ex, t⟩ g ⟨x, ⟨rfl, t0, hr⟩ | ⟨rfl, t2, hr⟩⟩
    · simp only at t0
      simp [J_precentorref1_RightAttrs_0, t0, o.len]
      exact Tells.ok (hQ _ _ ⟨by rw [hr]; simp; omega, x⟩)
    · simp only at t2
      simp [t2]
      exact Tells.ok (hQ _ _ ⟨by rw [hr]; simp, x⟩)

theorem ref_Get (hX : OnlyKnown X) {h : Heap} {v : AVal} {ats : List Att} (o : Sl attrR h v ats) (hl : ats.length ≤ 100) (nm : ByteArray) :
    Tells (fun q => acallX Try.prog X q F_precentorref1_Get [v, .str nm] h) fun r h' => Ext [] h h' ∧ ((∃ a, getA ats nm = some a ∧ r = .tup [.agg (vlC a.2), .bool true]) ∨ (getA ats nm = none ∧ r = .tup [.agg (vlC vl0), .bool false])) := by
  refine R_precentorref1_Get _ _ (hX _ _ rfl) ?_
  refine Tells.prot fun Q' hQ => ?_
  unfold S_precentorref1_Get
  try simp
  refine Tells.new fun h1 br or x1 l1 => ?_
  have or : Ob h1 br (vlC vl0) := or
  have o1 := o.ext x1
  try simp
  refine Tells.bind (Tells.loop (fun n t g => ∃ i : Nat, t 0 = v ∧ t 1 = .str nm ∧ t 4 = .ptr br 0 ∧ t 5 = .bool false ∧ t 6 = I i ∧ i + n = ats.length ∧ Ob g br (vlC vl0) ∧ Ext [] h g ∧ h.next ≤ br ∧ getA ats nm = getA (ats.drop i) nm)
    (Q := fun p g => Ext [] h g ∧ p.2 4 = .ptr br 0 ∧ ((p.1 = .exit 0 ∧ getA ats nm = none ∧ Ob g br (vlC vl0)) ∨ (p.1 = .ret ∧ p.2 5 = .bool true ∧ ∃ a, getA ats nm = some a ∧ Ob g br (vlC a.2)))) ?_ ats.length _ _ ?_) ?_
  · rintro n t g ⟨i, t0, t1, t4, t5, t6, hi, or, x, l, hg⟩
    refine Tells.prot fun Q2 hQ2 => ?_
    unfold L_precentorref1_Get_1
    simp [t0, t6, o.len]
    refine Tells.cb (fun hc => ?_) (fun hc => ?_)
    · simp at hc
      obtain ⟨a, ha⟩ : ∃ a, ats[i]? = some a := ⟨_, List.getElem?_eq_getElem hc⟩
      obtain ⟨b, p, B, q1, q2, q3, q4, q5, q6, q7⟩ := att_at (o.ext x) ha
      have w : IntKind.i64.wrap ((i : Int) + 1) = i + 1 := wrap_id (by omega) (by omega)
      have hd : ats.drop i = a :: ats.drop (i + 1) := by rw [List.drop_eq_getElem_cons hc, (List.getElem?_eq_some_iff.1 ha).2]
      rw [hd] at hg
      cases c : (a.1.toList == nm.toList) with
      | true =>
        simp [J_precentorref1_Get_2, t0, t1, t6, q1, q2, q5, q6, q7, c, t4]
        refine Tells.stN or (ds := vlC a.2) (by rfl) (by rfl) (by rfl) (by rfl) fun g2 or2 x2 => ?_
        try simp
        exact Tells.ok (hQ2 _ _ (.inr ⟨by simp, x.then x2 fun z hz => .inr (by simp at hz; omega), by simp [t4], .inr ⟨rfl, by simp, a, by rw [hg]; simp [getA, c], or2⟩⟩))
      | false =>
        simp [J_precentorref1_Get_2, t0, t1, t6, q1, q2, q5, q6, q7, c, J_precentorref1_Get_3, w]
        exact Tells.ok (hQ2 _ _ (.inl ⟨rfl, n - 1, by omega, i + 1, by simp [t0], by simp [t1], by simp [t4], by simp [t5], by simp, by omega, or, x, l, by rw [hg]; simp [getA, c]⟩))
    · simp at hc
      exact Tells.ok (hQ2 _ _ (.inr ⟨by simp, x, by simp [t4], .inl ⟨rfl, by rw [hg, List.drop_eq_nil_of_le (by omega)]; rfl, or⟩⟩))
  · exact ⟨0, by simp, by simp, by simp, by simp, by simp, by omega, or, x1, l1, rfl⟩
  · rintro ⟨ex, t⟩ g ⟨x, t4, ⟨rfl, hn, or⟩ | ⟨rfl, t5, a, ha, or⟩⟩
    · simp only at t4
      simp [J_precentorref1_Get_0, t4, bldR, fillR]
      refine Tells.stN or (ds := vlC vl0) (by rfl) (by rfl) (by rfl) (by rfl) fun g2 or2 x2 => ?_
      simp [t4, C_precentorref1_Get_0, or2.1]
      exact Tells.ok (hQ _ _ ⟨x.then x2 fun z hz => .inr (by simp at hz; omega), .inr ⟨hn, rfl⟩⟩)
    · simp only at t4 t5
      simp [t4, t5, C_precentorref1_Get_0, or.1]
      exact Tells.ok (hQ _ _ ⟨x, .inl ⟨a, ha, rfl⟩⟩)
end
end Go.Proofs.Ytfbipojncmkckaa
