/-
  What value's Cmp, Is and the document's own tell.
-/
import Derived.Test.YtjoniicebjpdaaaValP
import Derived.Test.YtjoniicebjpdaaaValC
set_option linter.unusedVariables false
set_option linter.unusedSimpArgs false
set_option maxRecDepth 20000
namespace Go.Proofs.Ytjoniicebjpdaaa
open Go.Ab

theorem un_neg (z : Int) : aUn Try.prog .neg (.int .i64 z) = some (I (IntKind.i64.wrap (0 - z))) := by kernel_rfl
theorem five (k : Int) : k = 1 ∨ k = 2 ∨ k = 3 ∨ k = 4 ∨ ((k == 1) = false ∧ (k == 2) = false ∧ (k == 3) = false ∧ (k == 4) = false) := by
  by_cases h1 : k = 1
  · exact .inl h1
  by_cases h2 : k = 2
  · exact .inr (.inl h2)
  by_cases h3 : k = 3
  · exact .inr (.inr (.inl h3))
  by_cases h4 : k = 4
  · exact .inr (.inr (.inr (.inl h4)))
  exact .inr (.inr (.inr (.inr ⟨beq_eq_false_iff_ne.2 h1, beq_eq_false_iff_ne.2 h2, beq_eq_false_iff_ne.2 h3, beq_eq_false_iff_ne.2 h4⟩)))
theorem ord_sgI (p q : Int) : ordB (decide (p < q)) (decide (q < p)) = sgI p q := by
  unfold ordB sgI
  by_cases h1 : p < q <;> by_cases h2 : q < p <;> simp [h1, h2]

section
variable {X : XTab}
theorem value_order (hX : OnlyKnown X) (b a : Bool) (h : Heap) : Tells (fun q => acallX Try.prog X q F_value_order [.bool b, .bool a] h) fun r h' => r = I (ordB b a) ∧ h' = h := by
  refine R_value_order _ _ (hX _ _ rfl) ?_
  unfold S_value_order
  cases b
  · cases a
    · simp [J_value_order_0, J_value_order_1]
      exact Tells.ok ⟨rfl, rfl⟩
    · simp [J_value_order_0]
      exact Tells.ok ⟨rfl, rfl⟩
  · simp
    exact Tells.ok ⟨rfl, rfl⟩

theorem value_Cmp (hX : OnlyKnown X) (v u : Vl) (hv : In64 v.n) (hu : In64 u.n) (h : Heap) : Tells (fun q => acallX Try.prog X q F_value_Cmp [.agg (vlC v), .agg (vlC u)] h) fun r h' => r = .tup [I (cmpV v u).1, .bool (cmpV v u).2] ∧ Ext [] h h' := by
  refine R_value_Cmp _ _ (hX _ _ rfl) ?_
  refine Tells.prot fun Q' hQ => ?_
  have u4 := Try.underlying4
  obtain ⟨ka, na, xa, sa, ba⟩ := v
  obtain ⟨kb, nb, xb, sb, bb⟩ := u
  unfold S_value_Cmp
  try simp
  refine Tells.box rfl rfl fun h1 bA oA x1 l1 => ?_
  try simp
  refine Tells.box rfl rfl fun h2 bB oB x2 l2 => ?_
  have oA2 := oA.e x2
  have x := x1.trans x2
  have gA : h2.get bA = some [I ka, I na, .flt .f64 xa, .str sa, .bool ba] := oA2.1
  have gB : h2.get bB = some [I kb, I nb, .flt .f64 xb, .str sb, .bool bb] := oB.1
  simp only at hv hu
  rcases five ka with rfl | rfl | rfl | rfl | ⟨ka1, ka2, ka3, ka4⟩ <;> rcases five kb with rfl | rfl | rfl | rfl | ⟨kb1, kb2, kb3, kb4⟩
  · simp [gA, gB]
    refine Tells.bind (value_order hX _ _ h2) ?_
    rintro _ h3 ⟨rfl, rfl⟩
    try simp
    exact Tells.ok (hQ _ _ ⟨by rw [ord_sgI]; simp [cmpV], x⟩)
  · simp [gA, gB]
    refine Tells.bind (float_CmpInt hX na hv xb h2) ?_
    rintro _ h3 ⟨rfl, rfl⟩
    try simp
    exact Tells.ok (hQ _ _ ⟨by simp [cmpV], x⟩)
  · simp [gA, gB, J_value_Cmp_0]
    exact Tells.ok (hQ _ _ ⟨by simp [cmpV], x⟩)
  · simp [gA, gB, J_value_Cmp_0]
    exact Tells.ok (hQ _ _ ⟨by simp [cmpV], x⟩)
  · simp [gA, gB, kb1, kb2, kb3, kb4, J_value_Cmp_0]
    exact Tells.ok (hQ _ _ ⟨by simp [cmpV, show ¬ kb = 1 from by simpa using kb1, show ¬ kb = 2 from by simpa using kb2, show ¬ kb = 3 from by simpa using kb3, show ¬ kb = 4 from by simpa using kb4], x⟩)
  · simp [gA, gB]
    refine Tells.bind (float_CmpInt hX nb hu xa h2) ?_
    rintro _ h3 ⟨rfl, rfl⟩
    have wr : IntKind.i64.wrap (0 - (cmpIF nb xa).1) = 0 - (cmpIF nb xa).1 := by
      have := cmpIF_in nb xa
      exact wrap_id (by omega) (by omega)
    rw [Int.zero_sub] at wr
    simp [un_neg, wr]
    exact Tells.ok (hQ _ _ ⟨by simp [cmpV], x⟩)
  · simp [gA, gB]
    refine Tells.bind (float_Cmp hX xa xb h2) ?_
    rintro _ h3 ⟨rfl, rfl⟩
    try simp
    exact Tells.ok (hQ _ _ ⟨by simp [cmpV], x⟩)
  · simp [gA, gB, J_value_Cmp_0]
    exact Tells.ok (hQ _ _ ⟨by simp [cmpV], x⟩)
  · simp [gA, gB, J_value_Cmp_0]
    exact Tells.ok (hQ _ _ ⟨by simp [cmpV], x⟩)
  · simp [gA, gB, kb1, kb2, kb3, kb4, J_value_Cmp_0]
    exact Tells.ok (hQ _ _ ⟨by simp [cmpV, show ¬ kb = 1 from by simpa using kb1, show ¬ kb = 2 from by simpa using kb2, show ¬ kb = 3 from by simpa using kb3, show ¬ kb = 4 from by simpa using kb4], x⟩)
  · simp [gA, gB, J_value_Cmp_0]
    exact Tells.ok (hQ _ _ ⟨by simp [cmpV], x⟩)
  · simp [gA, gB, J_value_Cmp_0]
    exact Tells.ok (hQ _ _ ⟨by simp [cmpV], x⟩)
  · simp [gA, gB]
    refine Tells.bind (value_order hX _ _ h2) ?_
    rintro _ h3 ⟨rfl, rfl⟩
    try simp
    exact Tells.ok (hQ _ _ ⟨by simp [cmpV, sgT], x⟩)
  · simp [gA, gB, J_value_Cmp_0]
    exact Tells.ok (hQ _ _ ⟨by simp [cmpV], x⟩)
  · simp [gA, gB, kb1, kb2, kb3, kb4, J_value_Cmp_0]
    exact Tells.ok (hQ _ _ ⟨by simp [cmpV, show ¬ kb = 1 from by simpa using kb1, show ¬ kb = 2 from by simpa using kb2, show ¬ kb = 3 from by simpa using kb3, show ¬ kb = 4 from by simpa using kb4], x⟩)
  · simp [gA, gB, J_value_Cmp_0]
    exact Tells.ok (hQ _ _ ⟨by simp [cmpV], x⟩)
  · simp [gA, gB, J_value_Cmp_0]
    exact Tells.ok (hQ _ _ ⟨by simp [cmpV], x⟩)
  · simp [gA, gB, J_value_Cmp_0]
    exact Tells.ok (hQ _ _ ⟨by simp [cmpV], x⟩)
  · cases ba <;> cases bb
    all_goals
      simp [gA, gB]
      refine Tells.bind (value_order hX _ _ h2) ?_
      rintro _ h3 ⟨rfl, rfl⟩
      try simp
      exact Tells.ok (hQ _ _ ⟨by simp [cmpV], x⟩)
  · simp [gA, gB, kb1, kb2, kb3, kb4, J_value_Cmp_0]
    exact Tells.ok (hQ _ _ ⟨by simp [cmpV, show ¬ kb = 1 from by simpa using kb1, show ¬ kb = 2 from by simpa using kb2, show ¬ kb = 3 from by simpa using kb3, show ¬ kb = 4 from by simpa using kb4], x⟩)
  · simp [gA, gB, ka1, ka2, ka3, ka4, J_value_Cmp_0]
    exact Tells.ok (hQ _ _ ⟨by simp [cmpV, show ¬ ka = 1 from by simpa using ka1, show ¬ ka = 2 from by simpa using ka2, show ¬ ka = 3 from by simpa using ka3, show ¬ ka = 4 from by simpa using ka4], x⟩)
  · simp [gA, gB, ka1, ka2, ka3, ka4, J_value_Cmp_0]
    exact Tells.ok (hQ _ _ ⟨by simp [cmpV, show ¬ ka = 1 from by simpa using ka1, show ¬ ka = 2 from by simpa using ka2, show ¬ ka = 3 from by simpa using ka3, show ¬ ka = 4 from by simpa using ka4], x⟩)
  · simp [gA, gB, ka1, ka2, ka3, ka4, J_value_Cmp_0]
    exact Tells.ok (hQ _ _ ⟨by simp [cmpV, show ¬ ka = 1 from by simpa using ka1, show ¬ ka = 2 from by simpa using ka2, show ¬ ka = 3 from by simpa using ka3, show ¬ ka = 4 from by simpa using ka4], x⟩)
  · simp [gA, gB, ka1, ka2, ka3, ka4, J_value_Cmp_0]
    exact Tells.ok (hQ _ _ ⟨by simp [cmpV, show ¬ ka = 1 from by simpa using ka1, show ¬ ka = 2 from by simpa using ka2, show ¬ ka = 3 from by simpa using ka3, show ¬ ka = 4 from by simpa using ka4], x⟩)
  · simp [gA, gB, ka1, ka2, ka3, ka4, kb1, kb2, kb3, kb4, J_value_Cmp_0]
    exact Tells.ok (hQ _ _ ⟨by simp [cmpV, show ¬ ka = 1 from by simpa using ka1, show ¬ ka = 2 from by simpa using ka2, show ¬ ka = 3 from by simpa using ka3, show ¬ ka = 4 from by simpa using ka4, show ¬ kb = 1 from by simpa using kb1, show ¬ kb = 2 from by simpa using kb2, show ¬ kb = 3 from by simpa using kb3, show ¬ kb = 4 from by simpa using kb4], x⟩)
theorem ref_CmpValue (hX : OnlyKnown X) (v u : Vl) (hv : In64 v.n) (hu : In64 u.n) (h : Heap) : Tells (fun q => acallX Try.prog X q F_precentorref1_CmpValue [.agg (vlC v), .agg (vlC u)] h) fun r h' => r = .tup [I (cmpV v u).1, .bool (cmpV v u).2] ∧ Ext [] h h' := by
  refine R_precentorref1_CmpValue _ _ (hX _ _ rfl) ?_
  refine Tells.prot fun Q' hQ => ?_
  have u4 := Try.underlying4
  obtain ⟨ka, na, xa, sa, ba⟩ := v
  obtain ⟨kb, nb, xb, sb, bb⟩ := u
  unfold S_precentorref1_CmpValue
  try simp
  refine Tells.box rfl rfl fun h1 bA oA x1 l1 => ?_
  try simp
  refine Tells.box rfl rfl fun h2 bB oB x2 l2 => ?_
  have oA2 := oA.e x2
  have x := x1.trans x2
  have gA : h2.get bA = some [I ka, I na, .flt .f64 xa, .str sa, .bool ba] := oA2.1
  have gB : h2.get bB = some [I kb, I nb, .flt .f64 xb, .str sb, .bool bb] := oB.1
  simp only at hv hu
  rcases five ka with rfl | rfl | rfl | rfl | ⟨ka1, ka2, ka3, ka4⟩ <;> rcases five kb with rfl | rfl | rfl | rfl | ⟨kb1, kb2, kb3, kb4⟩
  · rcases sgI_three na nb with ⟨e, c⟩ | ⟨e, c⟩ | ⟨e, c⟩
    · simp [gA, gB, c]
      exact Tells.ok (hQ _ _ ⟨by simp [cmpV, e], x⟩)
    · simp [gA, gB, c, J_precentorref1_CmpValue_1, J_precentorref1_CmpValue_2]
      exact Tells.ok (hQ _ _ ⟨by simp [cmpV, c, sgI_eq], x⟩)
    · simp [gA, gB, c, show ¬ na < nb by omega, J_precentorref1_CmpValue_1]
      exact Tells.ok (hQ _ _ ⟨by simp [cmpV, e], x⟩)
  · simp [gA, gB]
    refine Tells.bind (ref_CmpInt hX na hv xb h2) ?_
    rintro _ h3 ⟨rfl, rfl⟩
    try simp
    exact Tells.ok (hQ _ _ ⟨by simp [cmpV], x⟩)
  · simp [gA, gB, J_precentorref1_CmpValue_0]
    exact Tells.ok (hQ _ _ ⟨by simp [cmpV], x⟩)
  · simp [gA, gB, J_precentorref1_CmpValue_0]
    exact Tells.ok (hQ _ _ ⟨by simp [cmpV], x⟩)
  · simp [gA, gB, kb1, kb2, kb3, kb4, J_precentorref1_CmpValue_0]
    exact Tells.ok (hQ _ _ ⟨by simp [cmpV, show ¬ kb = 1 from by simpa using kb1, show ¬ kb = 2 from by simpa using kb2, show ¬ kb = 3 from by simpa using kb3, show ¬ kb = 4 from by simpa using kb4], x⟩)
  · simp [gA, gB]
    refine Tells.bind (ref_CmpInt hX nb hu xa h2) ?_
    rintro _ h3 ⟨rfl, rfl⟩
    have wr : IntKind.i64.wrap (0 - (cmpIF nb xa).1) = 0 - (cmpIF nb xa).1 := by
      have := cmpIF_in nb xa
      exact wrap_id (by omega) (by omega)
    rw [Int.zero_sub] at wr
    simp [un_neg, wr]
    exact Tells.ok (hQ _ _ ⟨by simp [cmpV], x⟩)
  · simp [gA, gB]
    refine Tells.bind (ref_Cmp hX xa xb h2) ?_
    rintro _ h3 ⟨rfl, rfl⟩
    try simp
    exact Tells.ok (hQ _ _ ⟨by simp [cmpV], x⟩)
  · simp [gA, gB, J_precentorref1_CmpValue_0]
    exact Tells.ok (hQ _ _ ⟨by simp [cmpV], x⟩)
  · simp [gA, gB, J_precentorref1_CmpValue_0]
    exact Tells.ok (hQ _ _ ⟨by simp [cmpV], x⟩)
  · simp [gA, gB, kb1, kb2, kb3, kb4, J_precentorref1_CmpValue_0]
    exact Tells.ok (hQ _ _ ⟨by simp [cmpV, show ¬ kb = 1 from by simpa using kb1, show ¬ kb = 2 from by simpa using kb2, show ¬ kb = 3 from by simpa using kb3, show ¬ kb = 4 from by simpa using kb4], x⟩)
  · simp [gA, gB, J_precentorref1_CmpValue_0]
    exact Tells.ok (hQ _ _ ⟨by simp [cmpV], x⟩)
  · simp [gA, gB, J_precentorref1_CmpValue_0]
    exact Tells.ok (hQ _ _ ⟨by simp [cmpV], x⟩)
  · cases c1 : Op.bytesLess sa.toList sb.toList
    · cases c2 : (sa.toList == sb.toList)
      · simp [gA, gB, c1, c2, J_precentorref1_CmpValue_3]
        exact Tells.ok (hQ _ _ ⟨by simp [cmpV, sgT, ordB, c1, c2], x⟩)
      · simp [gA, gB, c1, c2, J_precentorref1_CmpValue_3, J_precentorref1_CmpValue_4]
        exact Tells.ok (hQ _ _ ⟨by simp [cmpV, sgT, ordB, c1, c2], x⟩)
    · simp [gA, gB, c1]
      exact Tells.ok (hQ _ _ ⟨by simp [cmpV, sgT, ordB, c1], x⟩)
  · simp [gA, gB, J_precentorref1_CmpValue_0]
    exact Tells.ok (hQ _ _ ⟨by simp [cmpV], x⟩)
  · simp [gA, gB, kb1, kb2, kb3, kb4, J_precentorref1_CmpValue_0]
    exact Tells.ok (hQ _ _ ⟨by simp [cmpV, show ¬ kb = 1 from by simpa using kb1, show ¬ kb = 2 from by simpa using kb2, show ¬ kb = 3 from by simpa using kb3, show ¬ kb = 4 from by simpa using kb4], x⟩)
  · simp [gA, gB, J_precentorref1_CmpValue_0]
    exact Tells.ok (hQ _ _ ⟨by simp [cmpV], x⟩)
  · simp [gA, gB, J_precentorref1_CmpValue_0]
    exact Tells.ok (hQ _ _ ⟨by simp [cmpV], x⟩)
  · simp [gA, gB, J_precentorref1_CmpValue_0]
    exact Tells.ok (hQ _ _ ⟨by simp [cmpV], x⟩)
  · cases ba <;> cases bb
    all_goals
      simp [gA, gB, u4, J_precentorref1_CmpValue_5, J_precentorref1_CmpValue_6]
      exact Tells.ok (hQ _ _ ⟨by simp [cmpV, ordB], x⟩)
  · simp [gA, gB, kb1, kb2, kb3, kb4, J_precentorref1_CmpValue_0]
    exact Tells.ok (hQ _ _ ⟨by simp [cmpV, show ¬ kb = 1 from by simpa using kb1, show ¬ kb = 2 from by simpa using kb2, show ¬ kb = 3 from by simpa using kb3, show ¬ kb = 4 from by simpa using kb4], x⟩)
  · simp [gA, gB, ka1, ka2, ka3, ka4, J_precentorref1_CmpValue_0]
    exact Tells.ok (hQ _ _ ⟨by simp [cmpV, show ¬ ka = 1 from by simpa using ka1, show ¬ ka = 2 from by simpa using ka2, show ¬ ka = 3 from by simpa using ka3, show ¬ ka = 4 from by simpa using ka4], x⟩)
  · simp [gA, gB, ka1, ka2, ka3, ka4, J_precentorref1_CmpValue_0]
    exact Tells.ok (hQ _ _ ⟨by simp [cmpV, show ¬ ka = 1 from by simpa using ka1, show ¬ ka = 2 from by simpa using ka2, show ¬ ka = 3 from by simpa using ka3, show ¬ ka = 4 from by simpa using ka4], x⟩)
  · simp [gA, gB, ka1, ka2, ka3, ka4, J_precentorref1_CmpValue_0]
    exact Tells.ok (hQ _ _ ⟨by simp [cmpV, show ¬ ka = 1 from by simpa using ka1, show ¬ ka = 2 from by simpa using ka2, show ¬ ka = 3 from by simpa using ka3, show ¬ ka = 4 from by simpa using ka4], x⟩)
  · simp [gA, gB, ka1, ka2, ka3, ka4, J_precentorref1_CmpValue_0]
    exact Tells.ok (hQ _ _ ⟨by simp [cmpV, show ¬ ka = 1 from by simpa using ka1, show ¬ ka = 2 from by simpa using ka2, show ¬ ka = 3 from by simpa using ka3, show ¬ ka = 4 from by simpa using ka4], x⟩)
  · simp [gA, gB, ka1, ka2, ka3, ka4, kb1, kb2, kb3, kb4, J_precentorref1_CmpValue_0]
    exact Tells.ok (hQ _ _ ⟨by simp [cmpV, show ¬ ka = 1 from by simpa using ka1, show ¬ ka = 2 from by simpa using ka2, show ¬ ka = 3 from by simpa using ka3, show ¬ ka = 4 from by simpa using ka4, show ¬ kb = 1 from by simpa using kb1, show ¬ kb = 2 from by simpa using kb2, show ¬ kb = 3 from by simpa using kb3, show ¬ kb = 4 from by simpa using kb4], x⟩)
theorem value_Is (hX : OnlyKnown X) (v u : Vl) (hv : In64 v.n) (hu : In64 u.n) (h : Heap) : Tells (fun q => acallX Try.prog X q F_value_Is [.agg (vlC v), .agg (vlC u)] h) fun r h' => r = .bool ((cmpV v u).2 && (cmpV v u).1 == 0) ∧ Ext [] h h' := by
  refine R_value_Is _ _ (hX _ _ rfl) ?_
  refine Tells.prot fun Q' hQ => ?_
  unfold S_value_Is
  try simp
  refine Tells.box rfl rfl fun h1 bA oA x1 l1 => ?_
  try simp
  refine Tells.box rfl rfl fun h2 bB oB x2 l2 => ?_
  have oA2 := oA.e x2
  have x := x1.trans x2
  have gA : h2.get bA = some (vlC v) := oA2.1
  have gB : h2.get bB = some (vlC u) := oB.1
  have l5 : ∀ v : Vl, (vlC v).length = 5 := fun _ => rfl
  simp [gA, gB, l5, List.take_of_length_le (Nat.le_of_eq (l5 _))]
  refine Tells.bind (value_Cmp hX v u hv hu h2) ?_
  rintro _ h3 ⟨rfl, x3⟩
  cases e : (cmpV v u).2 with
  | true =>
    simp
    exact Tells.ok (hQ _ _ ⟨by simp [e], x.trans x3⟩)
  | false =>
    simp
    exact Tells.ok (hQ _ _ ⟨by simp [e], x.trans x3⟩)
theorem ref_Is (hX : OnlyKnown X) (v u : Vl) (hv : In64 v.n) (hu : In64 u.n) (h : Heap) : Tells (fun q => acallX Try.prog X q F_precentorref1_Is [.agg (vlC v), .agg (vlC u)] h) fun r h' => r = .bool ((cmpV v u).2 && (cmpV v u).1 == 0) ∧ Ext [] h h' := by
  refine R_precentorref1_Is _ _ (hX _ _ rfl) ?_
  refine Tells.prot fun Q' hQ => ?_
  unfold S_precentorref1_Is
  try simp
  refine Tells.box rfl rfl fun h1 bA oA x1 l1 => ?_
  try simp
  refine Tells.box rfl rfl fun h2 bB oB x2 l2 => ?_
  have oA2 := oA.e x2
  have x := x1.trans x2
  have gA : h2.get bA = some (vlC v) := oA2.1
  have gB : h2.get bB = some (vlC u) := oB.1
  have l5 : ∀ v : Vl, (vlC v).length = 5 := fun _ => rfl
  simp [gA, gB, l5, List.take_of_length_le (Nat.le_of_eq (l5 _))]
  refine Tells.bind (ref_CmpValue hX v u hv hu h2) ?_
  rintro _ h3 ⟨rfl, x3⟩
  cases e : (cmpV v u).2 with
  | true =>
    simp
    exact Tells.ok (hQ _ _ ⟨by simp [e], x.trans x3⟩)
  | false =>
    simp
    exact Tells.ok (hQ _ _ ⟨by simp [e], x.trans x3⟩)
end
end Go.Proofs.Ytjoniicebjpdaaa
