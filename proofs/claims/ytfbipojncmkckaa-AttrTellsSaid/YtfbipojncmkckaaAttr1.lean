/-
  attr.Word, value.Right and attr.Right of what the feed tells.
-/
import Derived.Test.YtfbipojncmkckaaAttr0
set_option linter.unusedVariables false
set_option linter.unusedSimpArgs false
namespace Go.Proofs.Ytfbipojncmkckaa
open Go.Ab

def letterB (b : UInt8) : Bool := !(decide ((b.toNat : Int) < 97) || decide (122 < (b.toNat : Int)))
def wordB (s : ByteArray) : Bool := s.data.toList.all letterB && (decide (1 ≤ s.size) && decide (s.size ≤ 6))
theorem names_word : ∀ n, n ∈ names5 → wordB n = true ∧ n.size ≤ 6 := by decide +kernel
theorem names_less : names5.Pairwise fun a b => Op.bytesLess a.toList b.toList = true := by decide +kernel
theorem names_dist : names5.Pairwise fun a b => (a.toList == b.toList) = false := by decide +kernel
theorem names_body : ∀ n, n ∈ names5 → (n.toList == (bs [110, 111, 98, 111, 100, 121]).toList) = false := by decide +kernel
theorem texts_size : ∀ s, s ∈ texts6 → s.size ≤ 12 := by decide +kernel

section
variable {X : XTab}
theorem attr_Word (hX : OnlyKnown X) (s : ByteArray) (hs : s.size < 2 ^ 63) (h : Heap) : Tells (fun q => acallX Try.prog X q F_attr_Word [.str s] h) fun r h' => r = .bool (wordB s) ∧ h' = h := by
  refine R_attr_Word _ (hX _ _ rfl) ?_
  refine Tells.prot fun Q' hQ => ?_
  have hsz : s.data.toList.length = s.size := rfl
  unfold S_attr_Word
  try simp
  refine Tells.bind (Tells.loop (fun n t g => ∃ i : Nat, t 0 = .str s ∧ t 3 = I i ∧ i + n = s.size ∧ g = h ∧ s.data.toList.all letterB = (s.data.toList.drop i).all letterB)
    (Q := fun p g => g = h ∧ ((p.1 = .exit 0 ∧ p.2 0 = .str s ∧ s.data.toList.all letterB = true) ∨ (p.1 = .ret ∧ p.2 2 = .bool false ∧ s.data.toList.all letterB = false))) ?_ s.size _ _ ?_) ?_
  · rintro n t g ⟨i, t0, t3, hi, rfl, ha⟩
    refine Tells.prot fun Q2 hQ2 => ?_
    unfold L_attr_Word_1
    simp [t0, t3, lenS]
    refine Tells.cb (fun hc => ?_) (fun hc => ?_)
    · simp at hc
      have w : IntKind.i64.wrap ((i : Int) + 1) = i + 1 := wrap_id (by omega) (by omega)
      have hlt : i < s.data.toList.length := by omega
      obtain ⟨b, hb⟩ : ∃ b, s.data.toList[i]? = some b := ⟨_, List.getElem?_eq_getElem hlt⟩
      have hd : s.data.toList.drop i = b :: s.data.toList.drop (i + 1) := by rw [List.drop_eq_getElem_cons hlt, (List.getElem?_eq_some_iff.1 hb).2]
      have ix : ixtR (.str s) (I i) = some (.int .u8 b.toNat) := by
        simp only [ixtR]
        rw [if_pos (by omega)]
        simp only [Int.toNat_natCast, hb]
      rw [hd, List.all_cons] at ha
      by_cases c1 : (b.toNat : Int) < 97
      · simp [J_attr_Word_2, t0, t3, ix, c1]
        exact Tells.ok (hQ2 _ _ (.inr ⟨by simp, rfl, .inr ⟨rfl, by simp, by rw [ha]; simp [letterB, c1]⟩⟩))
      · by_cases c2 : 122 < (b.toNat : Int)
        · simp [J_attr_Word_2, t0, t3, ix, c1, c2]
          exact Tells.ok (hQ2 _ _ (.inr ⟨by simp, rfl, .inr ⟨rfl, by simp, by rw [ha]; simp [letterB, c1, c2]⟩⟩))
        · simp [J_attr_Word_2, t0, t3, ix, c1, c2, J_attr_Word_3, w]
          exact Tells.ok (hQ2 _ _ (.inl ⟨rfl, n - 1, by omega, i + 1, by simp [t0], by simp, by omega, rfl, by rw [ha]; simp [letterB, c1, c2]⟩))
    · simp at hc
      exact Tells.ok (hQ2 _ _ (.inr ⟨by simp, rfl, .inl ⟨rfl, by simp [t0], by rw [ha, List.drop_eq_nil_of_le (by omega)]; rfl⟩⟩))
  · exact ⟨0, by simp, by simp, by omega, rfl, rfl⟩
  · rintro ⟨ex, t⟩ g ⟨rfl, ⟨rfl, t0, ha⟩ | ⟨rfl, t2, ha⟩⟩
    · simp only at t0
      by_cases c1 : 1 ≤ (s.size : Int)
      · simp [J_attr_Word_0, t0, lenS, c1]
        exact Tells.ok (hQ _ _ ⟨by rw [wordB, ha]; simp [show 1 ≤ s.size by omega]; omega, rfl⟩)
      · have : s.size = 0 := by omega
        simp [J_attr_Word_0, t0, lenS, this]
        exact Tells.ok (hQ _ _ ⟨by rw [wordB, ha]; simp [this], rfl⟩)
    · simp only at t2
      simp [t2]
      exact Tells.ok (hQ _ _ ⟨by rw [wordB, ha]; rfl, rfl⟩)

theorem value_Right (hX : OnlyKnown X) {v : Vl} (hv : FedV v) (h : Heap) : Tells (fun q => acallX Try.prog X q F_value_Right [.agg (vlC v)] h) fun r h' => r = .bool true ∧ Ext [] h h' := by
  refine R_value_Right _ (hX _ _ rfl) ?_
  refine Tells.prot fun Q' hQ => ?_
  unfold S_value_Right
  try simp
  refine Tells.box rfl rfl fun h1 bv ov x1 l1 => ?_
  try simp
  have ov : Ob h1 bv (vlC v) := ov
  simp [ov.1, vlC]
  refine Tells.newSt (ds := vlC v) (by rfl) (by rfl) (by rfl) (by rfl) fun h2 br or x2 l2 => ?_
  have ov2 := ov.e x2
  have e32 : ∀ x y, aBin Try.prog .eql 24 x y (.agg [I 0, I 0, .flt .f64 0, .str (bs []), .bool false]) (.agg [I 0, I 0, .flt .f64 0, .str (bs []), .bool false]) = some (.bool true) := fun x y => by kernel_rfl
  try simp
  refine Tells.st1 or (by rfl) (by rfl) (by simp [vlC]) fun h3 or3 x3 => ?_
  have hne : bv ≠ br := by have := ov.lt; omega
  have ov3 := ov2.ext x3 (by simpa using hne)
  have x03 : Ext [] h h3 := (x1.trans x2).then x3 fun z hz => .inr (by have := x1.next; simp at hz; omega)
  have fin : ∀ (g : Heap) (t : T), t 1 = .ptr bv 0 → t 3 = .ptr br 0 → Ob g bv (vlC v) → Ob g br (vlC vl0) → Ext [] h g → Tells (fun m => J_value_Right_0 Try.prog (acallX Try.prog X m) m (retK Try.prog [.tmp 2]) t g) Q' := by
    intro g t t1 t3 og rg xg
    have hsz : (v.s.size : Int) ≤ 12 := by
      have : v.s.size ≤ 12 := by
        rcases hv with ⟨_, _, hs, _⟩ | ⟨_, _, _, hs, _⟩ | ⟨_, _, _, hs, _⟩ | ⟨_, _, _, hs⟩
        · rw [hs]; decide
        · rw [hs]; decide
        · exact texts_size _ hs
        · rw [hs]; decide
      omega
    simp [J_value_Right_0, t1, t3, rg.1, vl0, vlC, bldR, fillR, e32, og.1, lenS, hsz]
    exact Tells.ok (hQ _ _ ⟨rfl, xg⟩)
  have xs : ∀ {g : Heap}, Ext [br] h3 g → Ext [] h g := fun {g} e => x03.then e fun z hz => .inr (by have := x1.next; simp at hz; omega)
  obtain ⟨k, n, x, s, b⟩ := v
  rcases hv with ⟨k1, q2, q3, q4, q5⟩ | ⟨k1, q2, q3, q4, q5⟩ | ⟨k1, q2, q3, q4, q5⟩ | ⟨k1, q2, q3, q4⟩
  · simp only at k1 q2 q3 q4
    subst k1 q2 q3 q4
    simp [ov3.1, vlC]
    refine Tells.st1 or3 (by rfl) (by rfl) (by simp [vlC]) fun h4 or4 x4 => ?_
    have ov4 := ov3.ext x4 (by simpa using hne)
    try simp
    exact fin h4 _ (by simp) (by simp) ov4 or4 (xs x4)
  · simp only at k1 q2 q4 q5
    subst k1 q2 q4 q5
    simp [ov3.1, vlC]
    refine Tells.st1 or3 (by rfl) (by rfl) (by simp [vlC]) fun h4 or4 x4 => ?_
    have ov4 := ov3.ext x4 (by simpa using hne)
    try simp
    exact fin h4 _ (by simp) (by simp) ov4 or4 (xs x4)
  · simp only at k1 q2 q3 q5
    subst k1 q2 q3 q5
    simp [ov3.1, vlC]
    refine Tells.st1 or3 (by rfl) (by rfl) (by simp [vlC]) fun h4 or4 x4 => ?_
    have ov4 := ov3.ext x4 (by simpa using hne)
    try simp
    exact fin h4 _ (by simp) (by simp) ov4 or4 (xs x4)
  · simp only at k1 q2 q3 q4
    subst k1 q2 q3 q4
    simp [ov3.1, vlC]
    refine Tells.st1 or3 (by rfl) (by rfl) (by simp [vlC]) fun h4 or4 x4 => ?_
    have ov4 := ov3.ext x4 (by simpa using hne)
    try simp
    exact fin h4 _ (by simp) (by simp) ov4 or4 (xs x4)

/-- Attributes that are right: their names rise and are words, their values are what the feed tells. -/
structure RightL (ats : List Att) : Prop where
  len : ats.length ≤ 5
  rise : ats.Pairwise fun a b => Op.bytesLess a.1.toList b.1.toList = true
  dist : ats.Pairwise fun a b => (a.1.toList == b.1.toList) = false
  body : ∀ a, a ∈ ats → (a.1.toList == (bs [110, 111, 98, 111, 100, 121]).toList) = false
  word : ∀ a, a ∈ ats → wordB a.1 = true ∧ a.1.size ≤ 6
  val : ∀ a, a ∈ ats → FedV a.2
theorem RightL.of {ats : List Att} (hl : ats.length ≤ 5) (hs : (ats.map (·.1)).Sublist names5) (hv : ∀ a, a ∈ ats → FedV a.2) : RightL ats :=
  ⟨hl, List.pairwise_map.1 (names_less.sublist hs), List.pairwise_map.1 (names_dist.sublist hs), fun a ha => names_body _ (hs.subset (List.mem_map_of_mem ha)), fun a ha => names_word _ (hs.subset (List.mem_map_of_mem ha)), hv⟩
theorem RightL.sub {l m : List Att} (r : RightL m) (s : l.Sublist m) : RightL l :=
  ⟨Nat.le_trans s.length_le r.len, r.rise.sublist s, r.dist.sublist s, fun a ha => r.body a (s.subset ha), fun a ha => r.word a (s.subset ha), fun a ha => r.val a (s.subset ha)⟩

theorem attr_Right (hX : OnlyKnown X) {h : Heap} {v : AVal} {l : List Att} (o : Sl attrR h v l) (r : RightL l) : Tells (fun q => acallX Try.prog X q F_attr_Right [v] h) fun r h' => r = .bool true ∧ Ext [] h h' := by
  refine R_attr_Right _ (hX _ _ rfl) ?_
  refine Tells.prot fun Q' hQ => ?_
  have hl := r.len
  unfold S_attr_Right
  simp [o.len, show ¬ (5 : Int) < l.length by omega, J_attr_Right_0]
  refine Tells.bind (Tells.loop (fun n t g => ∃ i : Nat, t 0 = v ∧ t 8 = v ∧ t 9 = I l.length ∧ t 10 = I i ∧ i + n = l.length ∧ Ext [] h g)
    (Q := fun p g => p.1 = .exit 0 ∧ Ext [] h g) ?_ l.length _ _ ?_) ?_
  · rintro n t g ⟨i, t0, t8, t9, t10, hi, x⟩
    refine Tells.prot fun Q2 hQ2 => ?_
    unfold L_attr_Right_2
    simp [t9, t10]
    refine Tells.cb (fun hc => ?_) (fun hc => ?_)
    · simp at hc
      obtain ⟨a, ha⟩ : ∃ a, l[i]? = some a := ⟨_, List.getElem?_eq_getElem hc⟩
      obtain ⟨b, p, B, q1, q2, q3, q4, q5, q6, q7⟩ := att_at (o.ext x) ha
      have w : IntKind.i64.wrap ((i : Int) + 1) = i + 1 := wrap_id (by omega) (by omega)
      have hm := List.mem_of_getElem? ha
      have hw := r.word a hm
      simp [J_attr_Right_3, t0, t8, t10, q1, q2, q3, q4]
      refine Tells.newSt (ds := attC a) (by rfl) (by rfl) (by rfl) (by rfl) fun g1 bn on xn ln => ?_
      simp [on.1, attC]
      refine Tells.cbE (attr_Word hX a.1 (by omega) g1) ?_
      rintro _ g1 ⟨rfl, rfl⟩
      simp [hw.1, on.1, attC]
      refine Tells.cbE (value_Right hX (r.val a hm) g1) ?_
      rintro _ g2 ⟨rfl, x2⟩
      have on2 := on.e x2
      by_cases hz : i = 0
      · have w1 : IntKind.i64.wrap 1 = 1 := by decide
        simp [hz, w1, J_attr_Right_4, t10, w]
        exact Tells.ok (hQ2 _ _ (.inl ⟨rfl, n - 1, by omega, i + 1, by simp [t0], by simp [t8], by simp [t9], by simp [hz], by omega, (x.trans xn).trans x2⟩))
      · obtain ⟨a', ha'⟩ : ∃ a, l[i - 1]? = some a := ⟨_, List.getElem?_eq_getElem (by omega)⟩
        obtain ⟨b', p', B', r1, r2, r3, r4, r5, r6, r7⟩ := att_at (o.ext ((x.trans xn).trans x2)) ha'
        have w2 : IntKind.i64.wrap ((i : Int) - 1) = (i - 1 : Nat) := by rw [wrap_id (by omega) (by omega)]; omega
        have less : Op.bytesLess a'.1.toList a.1.toList = true := by
          have a1 := List.getElem?_eq_some_iff.1 ha
          have a2 := List.getElem?_eq_some_iff.1 ha'
          have := List.pairwise_iff_getElem.1 r.rise (i - 1) i a2.1 a1.1 (by omega)
          rw [a1.2, a2.2] at this
          exact this
        simp [show 0 < i by omega, w2, r1, r2, r5, on2.1, attC, less, J_attr_Right_4, t10, w]
        exact Tells.ok (hQ2 _ _ (.inl ⟨rfl, n - 1, by omega, i + 1, by simp [t0], by simp [t8], by simp [t9], by simp, by omega, (x.trans xn).trans x2⟩))
    · exact Tells.ok (hQ2 _ _ (.inr ⟨by simp, rfl, x⟩))
  · exact ⟨0, by simp, by simp, by simp, by simp, by omega, .refl⟩
  · rintro ⟨ex, t⟩ g ⟨rfl, x⟩
    simp [J_attr_Right_1]
    exact Tells.ok (hQ _ _ ⟨rfl, x⟩)
end
end Go.Proofs.Ytfbipojncmkckaa
