/-
  What float's Cmp, CmpInt, Of tell, and the document's own.
-/
import Derived.Test.YtnlcjindeoaklaaFL2
import Derived.Test.YtnlcjindeoaklaaFlB
set_option linter.unusedVariables false
set_option linter.unusedSimpArgs false
namespace Go.Proofs.Ytnlcjindeoaklaa
open Go.Ab

theorem key_top : keyF 4890909195324358656 = some (9223372036854775808 * (E1074 : Int)) := by
  have h1 : rungF 4890909195324358656 = 4890909195324358656 := by decide
  have h2 : sgF 4890909195324358656 = false := by decide
  have h3 : maF 4890909195324358656 = 4503599627370496 := by decide
  have h4 : plF 4890909195324358656 = 11 + 1074 := by decide
  unfold keyF
  rw [h1, h2, if_pos (by decide)]
  unfold mgF
  rw [h3, h4, E_split (p := 11 + 1074) (q := 11) rfl]
  show some (((4503599627370496 * (2 ^ 11 * E1074) : Nat) : Int)) = _
  have : 4503599627370496 * (2 ^ 11 * E1074) = 9223372036854775808 * E1074 := by rw [← Nat.mul_assoc]
  rw [this]
  simp
theorem key_bot : keyF 14114281232179134464 = some (-(9223372036854775808 * (E1074 : Int))) := by
  have h1 : rungF 14114281232179134464 = 4890909195324358656 := by decide
  have h2 : sgF 14114281232179134464 = true := by decide
  have h3 : maF 4890909195324358656 = 4503599627370496 := by decide
  have h4 : plF 4890909195324358656 = 11 + 1074 := by decide
  unfold keyF
  rw [h1, h2, if_pos (by decide)]
  unfold mgF
  rw [h3, h4, E_split (p := 11 + 1074) (q := 11) rfl]
  show some (-((4503599627370496 * (2 ^ 11 * E1074) : Nat) : Int)) = _
  have : 4503599627370496 * (2 ^ 11 * E1074) = 9223372036854775808 * E1074 := by rw [← Nat.mul_assoc]
  rw [this]
  simp

theorem trunc_nat {x : Nat} {a : Int} (k : keyF x = some a) : aNat Try.prog F_math_archTrunc [.flt .f64 x] = some (.flt .f64 (trF x)) := by
  have e : ∃ s m i, Ieee.double.read x = .number s m i ∨ Ieee.double.read x = .infinity s := by
    unfold keyF at k
    split at k
    · rename_i h
      rcases Nat.lt_or_eq_of_le h with q | q
      · exact ⟨_, _, _, .inl (read_num q)⟩
      · exact ⟨_, 0, 0, .inr (read_inf q)⟩
    · cases k
  have hn : aNat Try.prog F_math_archTrunc [.flt .f64 x] = aPureB Try.prog (Go.Extern.MathFloor.toIntegral "math.archTrunc" .zero) [.flt .f64 x] := by kernel_rfl
  rw [hn]
  obtain ⟨s, m, i, e⟩ := e
  have e2 : Go.Extern.MathFloor.toIntegral "math.archTrunc" .zero #[.float .f64 x] = pure (Value.float .f64 (trF x)) := by
    show (match FloatKind.f64.decode x with
      | .nan s t => _
      | d => pure (Value.float .f64 (FloatKind.f64.encode (d.integral .zero)))) = _
    have hd : FloatKind.f64.decode x = Ieee.double.read x := rfl
    rw [hd]
    unfold trF
    rcases e with e | e <;> rw [e] <;> rfl
  have v1 : AVal.toVs [.flt .f64 x] = some [.float .f64 x] := rfl
  unfold aPureB
  rw [v1]
  show (match aPure Try.prog (Go.Extern.MathFloor.toIntegral "math.archTrunc" .zero #[.float .f64 x]) with
    | some r => some (ofV 0 r)
    | none => none) = _
  rw [e2]
  rfl

/-- A float to a whole number, where there is one. -/
theorem conv_w {h : Heap} {x : Nat} {w : Int} (e : (Ieee.double.read x).toInt .zero = some w) (h1 : -9223372036854775808 ≤ w) (h2 : w ≤ 9223372036854775807) : aConv Try.prog h 22 2 (.flt .f64 x) = .val (I w) h := by
  have hn : aConv Try.prog h 22 2 (.flt .f64 x) = match aPure Try.prog (Conv.floatToInt .f64 x .i64) with
    | some r => .val (ofV 0 r) h
    | none => .fail := by kernel_rfl
  rw [hn]
  have : aPure Try.prog (Conv.floatToInt .f64 x .i64) = some (.int .i64 w) := by
    unfold Conv.floatToInt
    show aPure Try.prog (match (Ieee.double.read x).toInt .zero with
      | some n => if IntKind.min .i64 ≤ n ∧ n ≤ IntKind.max .i64 then pure (Value.int .i64 n) else _
      | none => _) = _
    rw [e]
    simp only
    rw [if_pos ⟨h1, h2⟩]
    rfl
  rw [this]
  rfl

theorem sgI_lt {a b : Int} (h : a < b) : sgI a b = -1 := by unfold sgI; rw [if_pos h]
theorem sgI_gt {a b : Int} (h : b < a) : sgI a b = 1 := by unfold sgI; rw [if_neg (by omega), if_pos h]
theorem sgI_eq (a : Int) : sgI a a = 0 := by unfold sgI; rw [if_neg (by omega), if_neg (by omega)]
theorem E_posI : (0 : Int) < (E1074 : Int) := Int.ofNat_lt.2 E_pos
theorem mul_lt {a b : Int} (h : a < b) : a * (E1074 : Int) < b * (E1074 : Int) := Int.mul_lt_mul_of_pos_right h E_posI
theorem mul_le {a b : Int} (h : a ≤ b) : a * (E1074 : Int) ≤ b * (E1074 : Int) := Int.mul_le_mul_of_nonneg_right h (Int.le_of_lt E_posI)
/-- A number beside a float, by the float's whole part. -/
theorem whole_lt {n w a : Int} (h0 : 0 ≤ a → w = a / (E1074 : Int)) (h1 : a ≤ 0 → w = -((-a) / (E1074 : Int))) : (n < w → n * (E1074 : Int) < a) ∧ (w < n → a < n * (E1074 : Int)) := by
  have hE := E_posI
  rcases Int.le_total 0 a with ha | ha
  · have hw := h0 ha
    have e1 : w * (E1074 : Int) ≤ a := by rw [hw]; exact Int.ediv_mul_le a (by omega)
    have e2 : a < (w + 1) * (E1074 : Int) := by rw [hw]; exact Int.lt_ediv_add_one_mul_self a hE
    refine ⟨fun h => ?_, fun h => ?_⟩
    · have := mul_lt h; omega
    · have := mul_le (show w + 1 ≤ n by omega); omega
  · have hw := h1 ha
    have e1 : (-a) / (E1074 : Int) * (E1074 : Int) ≤ -a := Int.ediv_mul_le (-a) (by omega)
    have e2 : -a < ((-a) / (E1074 : Int) + 1) * (E1074 : Int) := Int.lt_ediv_add_one_mul_self (-a) hE
    generalize (-a) / (E1074 : Int) = q at *
    subst hw
    have e3 : -q * (E1074 : Int) = -(q * (E1074 : Int)) := Int.neg_mul _ _
    have e4 : (-q - 1) * (E1074 : Int) = -((q + 1) * (E1074 : Int)) := by rw [← Int.neg_mul]; congr 1; omega
    refine ⟨fun h => ?_, fun h => ?_⟩
    · have := mul_le (show n ≤ -q - 1 by omega); omega
    · have := mul_lt h; omega

section
variable {X : XTab}

theorem float_sign (hX : OnlyKnown X) (b a : Bool) (h : Heap) : Tells (fun q => acallX Try.prog X q F_float_sign [.bool b, .bool a] h) fun r h' => r = I (if b then -1 else if a then 1 else 0) ∧ h' = h := by
  refine R_float_sign _ _ (hX _ _ rfl) ?_
  unfold S_float_sign
  cases b
  · cases a
    · simp [J_float_sign_0]
      exact Tells.ok ⟨rfl, rfl⟩
    · simp
      exact Tells.ok ⟨rfl, rfl⟩
  · simp
    exact Tells.ok ⟨rfl, rfl⟩
theorem sign_sgI (p q : Int) : (if compare p q == Ordering.lt then (-1 : Int) else if compare p q == Ordering.gt then 1 else 0) = sgI p q := by
  rw [cmp_def]
  unfold sgI
  by_cases h1 : p < q
  · simp [h1]
  · by_cases h2 : p = q
    · simp [h1, h2]
    · have : q < p := by omega
      simp [h1, h2, this]

theorem sign_sgI' (p q : Int) : (if compare p q = Ordering.lt then (-1 : Int) else if compare p q = Ordering.gt then 1 else 0) = sgI p q := by
  rw [← sign_sgI]
  simp

theorem float_Cmp (hX : OnlyKnown X) (a b : Nat) (h : Heap) : Tells (fun q => acallX Try.prog X q F_float_Cmp [.flt .f64 a, .flt .f64 b] h) fun r h' => r = .tup [I (cmpF a b).1, .bool (cmpF a b).2] ∧ h' = h := by
  refine R_float_Cmp _ _ (hX _ _ rfl) ?_
  refine Tells.prot fun Q' hQ => ?_
  unfold S_float_Cmp
  try simp
  refine Tells.bind (IsNaN_ hX a h) ?_
  rintro _ h ⟨rfl, rfl⟩
  rw [nan_key]
  cases ka : keyF a with
  | none =>
    simp
    exact Tells.ok (hQ _ _ ⟨by simp [cmpF, ka], rfl⟩)
  | some p =>
    simp
    refine Tells.bind (IsNaN_ hX b h) ?_
    rintro _ h ⟨rfl, rfl⟩
    rw [nan_key]
    cases kb : keyF b with
    | none =>
      simp
      exact Tells.ok (hQ _ _ ⟨by simp [cmpF, ka, kb], rfl⟩)
    | some q =>
      simp [J_float_Cmp_0, ford_some ka kb]
      refine Tells.bind (float_sign hX _ _ h) ?_
      rintro _ h ⟨rfl, rfl⟩
      try simp
      refine Tells.ok (hQ _ _ ⟨?_, rfl⟩)
      simp only [cmpF, ka, kb]
      rw [← sign_sgI']

theorem ref_Cmp (hX : OnlyKnown X) (a b : Nat) (h : Heap) : Tells (fun q => acallX Try.prog X q F_precentorref1_Cmp [.flt .f64 a, .flt .f64 b] h) fun r h' => r = .tup [I (cmpF a b).1, .bool (cmpF a b).2] ∧ h' = h := by
  refine R_precentorref1_Cmp _ _ (hX _ _ rfl) ?_
  unfold S_precentorref1_Cmp
  cases ka : keyF a with
  | none =>
    simp [ford_none (x := a) (y := a) (.inl ka)]
    exact Tells.ok ⟨by simp [cmpF, ka], rfl⟩
  | some p =>
    cases kb : keyF b with
    | none =>
      simp [ford_some ka ka, cmp_eq, ford_none (x := b) (y := b) (.inl kb)]
      exact Tells.ok ⟨by simp [cmpF, ka, kb], rfl⟩
    | some q =>
      have e : cmpF a b = (sgI p q, true) := by simp [cmpF, ka, kb]
      rw [e]
      rcases Int.lt_trichotomy p q with c | c | c
      · simp [ford_some ka ka, ford_some kb kb, cmp_eq, ford_some ka kb, cmp_lt c]
        exact Tells.ok ⟨by rw [sgI_lt c], rfl⟩
      · subst c
        simp [ford_some ka ka, ford_some kb kb, cmp_eq, ford_some ka kb, J_precentorref1_Cmp_0]
        exact Tells.ok ⟨by rw [sgI_eq], rfl⟩
      · simp [ford_some ka ka, ford_some kb kb, cmp_eq, ford_some ka kb, cmp_gt c]
        exact Tells.ok ⟨by rw [sgI_gt c], rfl⟩

theorem math_Trunc (hX : OnlyKnown X) {x : Nat} {a : Int} (k : keyF x = some a) (h : Heap) : Tells (fun q => acallX Try.prog X q F_math_Trunc [.flt .f64 x] h) fun r h' => r = .flt .f64 (trF x) ∧ h' = h := by
  refine R_math_Trunc _ (hX _ _ rfl) ?_
  unfold S_math_Trunc
  simp [trunc_nat k]
  exact Tells.ok ⟨rfl, rfl⟩

theorem cmpIF_some {n : Int} {x : Nat} {a : Int} (k : keyF x = some a) : cmpIF n x = (sgI (n * (E1074 : Int)) a, true) := by simp [cmpIF, k]

theorem float_CmpInt (hX : OnlyKnown X) (n : Int) (hn : In64 n) (x : Nat) (h : Heap) : Tells (fun q => acallX Try.prog X q F_float_CmpInt [I n, .flt .f64 x] h) fun r h' => r = .tup [I (cmpIF n x).1, .bool (cmpIF n x).2] ∧ h' = h := by
  refine R_float_CmpInt _ _ (hX _ _ rfl) ?_
  refine Tells.prot fun Q' hQ => ?_
  unfold S_float_CmpInt
  try simp
  refine Tells.bind (IsNaN_ hX x h) ?_
  rintro _ h ⟨rfl, rfl⟩
  rw [nan_key]
  have hE := E_posI
  have hb1 := mul_le (show -9223372036854775808 ≤ n from hn.1)
  have hb2 := mul_lt hn.2
  cases k : keyF x with
  | none =>
    simp
    exact Tells.ok (hQ _ _ ⟨by simp [cmpIF, k], rfl⟩)
  | some a =>
  rw [cmpIF_some k] at hQ
  by_cases c1 : 9223372036854775808 * (E1074 : Int) ≤ a
  · have : (ford x 4890909195324358656 == some .gt || ford x 4890909195324358656 == some .eq) = true := by
      rw [ford_some k key_top]
      rcases Int.lt_or_eq_of_le c1 with q | q
      · rw [cmp_gt q]; rfl
      · rw [q, cmp_eq]; rfl
    simp [this]
    exact Tells.ok (hQ _ _ ⟨by rw [sgI_lt (by omega)], rfl⟩)
  have f1 : (ford x 4890909195324358656 == some .gt || ford x 4890909195324358656 == some .eq) = false := by
    rw [ford_some k key_top, cmp_lt (by omega)]; rfl
  by_cases c2 : a < -(9223372036854775808 * (E1074 : Int))
  · have : (ford x 14114281232179134464 == some .lt) = true := by
      rw [ford_some k key_bot, cmp_lt c2]; rfl
    simp only [f1, aBin_fgeq, aBin_flss, this]
    try simp
    exact Tells.ok (hQ _ _ ⟨by rw [sgI_gt (by omega)], rfl⟩)
  have f2 : (ford x 14114281232179134464 == some .lt) = false := by
    rw [ford_some k key_bot]
    rw [beq_eq_false_iff_ne]
    intro q
    exact c2 (cmp_iff_lt.1 (Option.some.inj q))
  obtain ⟨w, t1, t2, t3, t4, _, t5, t6⟩ := trunc_ k (by omega) (by omega)
  obtain ⟨l1, l2⟩ := whole_lt (n := n) t5 t6
  simp only [aBin_fgeq, f1, aBin_flss, f2]
  simp [J_float_CmpInt_0]
  refine Tells.bind (math_Trunc hX k h) ?_
  rintro _ h ⟨rfl, rfl⟩
  simp [conv_w t1 t2 t3]
  by_cases c3 : w = n
  · subst c3
    simp [J_float_CmpInt_1, ford_some t4 k]
    refine Tells.bind (float_sign hX _ _ h) ?_
    rintro _ h ⟨rfl, rfl⟩
    try simp
    refine Tells.ok (hQ _ _ ⟨?_, rfl⟩)
    rw [← sign_sgI']
  · have b3 : (w != n) = true := by simp [c3]
    simp [b3]
    refine Tells.bind (float_sign hX _ _ h) ?_
    rintro _ h ⟨rfl, rfl⟩
    try simp
    refine Tells.ok (hQ _ _ ⟨?_, rfl⟩)
    rcases Int.lt_or_gt_of_ne (Ne.symm c3) with q | q
    · rw [sgI_lt (l1 q)]; simp [q]
    · rw [sgI_gt (l2 q)]; simp [q, show ¬ n < w by omega]

theorem ref_CmpInt (hX : OnlyKnown X) (n : Int) (hn : In64 n) (x : Nat) (h : Heap) : Tells (fun q => acallX Try.prog X q F_precentorref1_CmpInt [I n, .flt .f64 x] h) fun r h' => r = .tup [I (cmpIF n x).1, .bool (cmpIF n x).2] ∧ h' = h := by
  refine R_precentorref1_CmpInt _ _ (hX _ _ rfl) ?_
  refine Tells.prot fun Q' hQ => ?_
  unfold S_precentorref1_CmpInt
  have hE := E_posI
  have hb1 := mul_le (show -9223372036854775808 ≤ n from hn.1)
  have hb2 := mul_lt hn.2
  cases k : keyF x with
  | none =>
    simp [ford_none (x := x) (y := x) (.inl k)]
    exact Tells.ok (hQ _ _ ⟨by simp [cmpIF, k], rfl⟩)
  | some a =>
  rw [cmpIF_some k] at hQ
  have f0 : (ford x x != some .eq) = false := by rw [nan_key, k]; rfl
  by_cases c1 : 9223372036854775808 * (E1074 : Int) ≤ a
  · have : (ford x 4890909195324358656 == some .gt || ford x 4890909195324358656 == some .eq) = true := by
      rw [ford_some k key_top]
      rcases Int.lt_or_eq_of_le c1 with q | q
      · rw [cmp_gt q]; rfl
      · rw [q, cmp_eq]; rfl
    simp [f0, this]
    exact Tells.ok (hQ _ _ ⟨by rw [sgI_lt (by omega)], rfl⟩)
  have f1 : (ford x 4890909195324358656 == some .gt || ford x 4890909195324358656 == some .eq) = false := by
    rw [ford_some k key_top, cmp_lt (by omega)]; rfl
  by_cases c2 : a < -(9223372036854775808 * (E1074 : Int))
  · have : (ford x 14114281232179134464 == some .lt) = true := by
      rw [ford_some k key_bot, cmp_lt c2]; rfl
    simp [f0, f1, this]
    exact Tells.ok (hQ _ _ ⟨by rw [sgI_gt (by omega)], rfl⟩)
  have f2 : (ford x 14114281232179134464 == some .lt) = false := by
    rw [ford_some k key_bot]
    rw [beq_eq_false_iff_ne]
    intro q
    exact c2 (cmp_iff_lt.1 (Option.some.inj q))
  obtain ⟨w, t1, t2, t3, t4, _, t5, t6⟩ := trunc_ k (by omega) (by omega)
  obtain ⟨l1, l2⟩ := whole_lt (n := n) t5 t6
  simp [f0, f1, f2, J_precentorref1_CmpInt_0]
  refine Tells.bind (math_Trunc hX k h) ?_
  rintro _ h ⟨rfl, rfl⟩
  simp [conv_w t1 t2 t3]
  rcases Int.lt_trichotomy n w with c3 | c3 | c3
  · simp [c3]
    exact Tells.ok (hQ _ _ ⟨by rw [sgI_lt (l1 c3)], rfl⟩)
  · subst c3
    rcases Int.lt_trichotomy (n * (E1074 : Int)) a with c | c | c
    · simp [ford_some t4 k, cmp_lt c]
      exact Tells.ok (hQ _ _ ⟨by rw [sgI_lt c], rfl⟩)
    · rw [c] at t4
      simp [ford_some t4 k, cmp_eq, J_precentorref1_CmpInt_1]
      exact Tells.ok (hQ _ _ ⟨by rw [c, sgI_eq], rfl⟩)
    · simp [ford_some t4 k, cmp_gt c]
      exact Tells.ok (hQ _ _ ⟨by rw [sgI_gt c], rfl⟩)
  · simp [c3, show ¬ n < w by omega]
    exact Tells.ok (hQ _ _ ⟨by rw [sgI_gt (l2 c3)], rfl⟩)

end
end Go.Proofs.Ytnlcjindeoaklaa
