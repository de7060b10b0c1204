/-
  The whole part of a float, as the machine tells it.
-/
import Derived.Test.YtbkfamdkdjajjaaFL0
set_option linter.unusedVariables false
set_option linter.unusedSimpArgs false
namespace Go.Ab
open Ieee

def eX : Nat := 1074
theorem eX_eq : eX = 1074 := rfl
def E1074 : Nat := 2 ^ eX
theorem E_add {a b : Nat} (h : a + b = 1074) : E1074 = 2 ^ a * 2 ^ b := by
  have e : eX = a + b := by rw [h]; rfl
  unfold E1074
  rw [e, Nat.pow_add]
theorem E_split {p q : Nat} (h : p = q + 1074) : 2 ^ p = 2 ^ q * E1074 := by
  have e : p = q + eX := by rw [h]; rfl
  unfold E1074
  rw [e, Nat.pow_add]
theorem E_pos : 0 < E1074 := Nat.two_pow_pos _
theorem E_ge {p : Nat} (h : p < 1074) : 2 ^ p ≤ E1074 := by
  have e : p ≤ eX := by rw [eX_eq]; omega
  exact Nat.pow_le_pow_right (by omega) e
theorem dbl_frac : double.fractionBits = 52 := rfl

theorem cut_zero (s : Bool) (n drop : Nat) : Toward.zero.cut s n drop = n / 2 ^ drop := by
  unfold Toward.cut
  simp only [Bool.toNat_false, Nat.add_zero]
  rw [Nat.shiftLeft_eq, Nat.one_mul]
  by_cases h : drop ≤ n.log2 + 2
  · rw [Nat.min_eq_left h]
  · rw [Nat.min_eq_right (by omega)]
    have h1 : n < 2 ^ (n.log2 + 1) := Nat.lt_log2_self
    have h2 : 2 ^ (n.log2 + 1) ≤ 2 ^ (n.log2 + 2) := Nat.pow_le_pow_right (by omega) (by omega)
    have h3 : 2 ^ (n.log2 + 2) ≤ 2 ^ drop := Nat.pow_le_pow_right (by omega) (by omega)
    rw [Nat.div_eq_of_lt (by omega), Nat.div_eq_of_lt (by omega)]
/-- What is cut off is nought. -/
theorem cut_even (s : Bool) (n drop : Nat) (hd : 2 ^ drop ∣ n) (hl : drop ≤ n.log2 + 2) : Toward.even.cut s n drop = n / 2 ^ drop := by
  unfold Toward.cut
  simp only [Nat.min_eq_left hl, Nat.shiftLeft_eq, Nat.one_mul, Nat.mod_eq_zero_of_dvd hd]
  have hp := Nat.two_pow_pos drop
  have h1 : (decide (2 ^ drop < 2 * 0) || (2 ^ drop == 2 * 0 && n / 2 ^ drop % 2 == 1)) = false := by
    have : (2 ^ drop == 2 * 0) = false := by rw [beq_eq_false_iff_ne]; omega
    rw [this]; simp
  simp only [h1, Bool.toNat_false, Nat.add_zero]

theorem word_dbl (s : Bool) (r : Nat) : double.word s r = if s then 9223372036854775808 + r else r := rfl
theorem word_read {s : Bool} {r : Nat} (h : r < 9223372036854775808) : rungF (double.word s r) = r ∧ sgF (double.word s r) = s := by
  rw [word_dbl]
  unfold rungF sgF
  cases s
  · simp; omega
  · simp; omega

/-- A whole number of at most so many digits is told as it is. -/
theorem nearest_int {s : Bool} {M : Nat} (h0 : M ≠ 0) (hl : M.log2 ≤ 1000) (hd : 52 < M.log2 → 2 ^ (M.log2 - 52) ∣ M) :
    ∃ f, f < 4503599627370496 ∧ double.nearest s M 0 = double.word s ((M.log2 + 1023) * 4503599627370496 + f) ∧ (4503599627370496 + f) * 2 ^ M.log2 = M * 4503599627370496 := by
  have hlo : 2 ^ M.log2 ≤ M := Nat.log2_self_le h0
  have hhi : M < 2 ^ (M.log2 + 1) := Nat.lt_log2_self
  rw [Nat.pow_succ] at hhi
  have p52 : (2 : Nat) ^ 52 = 4503599627370496 := by decide
  generalize hL : M.log2 = L at *
  have kk : ∃ k, (4503599627370496 ≤ k ∧ k < 2 * 4503599627370496) ∧ k * 2 ^ L = M * 4503599627370496 ∧ Toward.even.cut s (M <<< ((0 : Int) - ((L : Int) - 52)).toNat) (((L : Int) - 52) - (0 : Int)).toNat = k := by
    by_cases h : L ≤ 52
    · have e1 : ((0 : Int) - ((L : Int) - 52)).toNat = 52 - L := by omega
      have e2 : ((L : Int) - 52 - (0 : Int)).toNat = 0 := by omega
      rw [e1, e2]
      have hm2 : M * 2 ^ (52 - L) * 2 ^ L = M * 4503599627370496 := by rw [Nat.mul_assoc, ← Nat.pow_add, Nat.sub_add_cancel h, p52]
      have hp := Nat.two_pow_pos L
      refine ⟨M * 2 ^ (52 - L), ⟨?_, ?_⟩, hm2, ?_⟩
      · have : 2 ^ L * 2 ^ (52 - L) ≤ M * 2 ^ (52 - L) := Nat.mul_le_mul_right _ hlo
        rw [← Nat.pow_add, show L + (52 - L) = 52 by omega, p52] at this
        exact this
      · have : M * 2 ^ (52 - L) < 2 ^ L * 2 * 2 ^ (52 - L) := Nat.mul_lt_mul_of_pos_right hhi (Nat.two_pow_pos _)
        rw [Nat.mul_comm (2 ^ L) 2, Nat.mul_assoc, ← Nat.pow_add, show L + (52 - L) = 52 by omega, p52] at this
        exact this
      · rw [cut_even _ _ _ (by simp) (by omega), Nat.shiftLeft_eq]; simp
    · have e1 : ((0 : Int) - ((L : Int) - 52)).toNat = 0 := by omega
      have e2 : ((L : Int) - 52 - (0 : Int)).toNat = L - 52 := by omega
      rw [e1, e2]
      obtain ⟨k, hk⟩ := hd (by omega)
      have e : Toward.even.cut s (M <<< 0) (L - 52) = k := by
        rw [Nat.shiftLeft_zero, cut_even _ _ _ ⟨k, hk⟩ (by omega), hk, Nat.mul_div_cancel_left _ (Nat.two_pow_pos _)]
      have hpw : (2 : Nat) ^ L = 2 ^ (L - 52) * 4503599627370496 := by rw [← p52, ← Nat.pow_add, Nat.sub_add_cancel (by omega)]
      have hp := Nat.two_pow_pos (L - 52)
      refine ⟨k, ⟨?_, ?_⟩, ?_, e⟩
      · rw [hpw, hk] at hlo
        exact Nat.le_of_mul_le_mul_left hlo hp
      · rw [hpw, hk, Nat.mul_assoc] at hhi
        have := Nat.lt_of_mul_lt_mul_left hhi
        omega
      · rw [hpw, hk, Nat.mul_comm k, Nat.mul_assoc, Nat.mul_assoc, Nat.mul_comm 4503599627370496 k]
  obtain ⟨k, ⟨k1, k2⟩, k3, k4⟩ := kk
  refine ⟨k - 4503599627370496, by omega, ?_, by rw [show 4503599627370496 + (k - 4503599627370496) = k by omega]; exact k3⟩
  have hm : max ((0 : Int) + (L : Int) - (double.fractionBits : Int)) (-1074) = (L : Int) - 52 := by
    rw [dbl_frac]
    omega
  unfold Format.nearest
  rw [if_neg h0, hL]
  simp only [hm, k4, dbl_bin, dbl_inf, dbl_least]
  refine congrArg (double.word s) ?_
  have e : ((L : Int) - 52 - -1074).toNat = L + 1022 := by omega
  have hi : infF = 2047 * 4503599627370496 := rfl
  rw [e, hi]
  have hle : (L + 1022) * 4503599627370496 + k ≤ 2047 * 4503599627370496 := by
    clear hm k4 k3 hd hlo hhi e hi p52
    omega
  rw [Nat.min_eq_left hle]
  clear hm k4 k3 hd hlo hhi e hi p52 hle
  omega

/-- .. and read again. -/
theorem read_int' {s : Bool} {M : Nat} (hl : M.log2 ≤ 1000) (hd : 52 < M.log2 → 2 ^ (M.log2 - 52) ∣ M) :
    keyF (double.nearest s M 0) = some (sgn s (M * E1074)) ∧ (double.read (double.nearest s M 0)).toInt .zero = some (sgn s M) ∧ double.nearest s M 0 < 18446744073709551616 := by
  by_cases h0 : M = 0
  · subst h0
    have e : double.nearest s 0 0 = double.word s 0 := by unfold Format.nearest; rw [if_pos rfl]
    rw [e]
    rw [Nat.zero_mul]
    cases s
    · exact ⟨by decide, by decide, by decide⟩
    · exact ⟨by decide, by decide, by decide⟩
  · obtain ⟨f, hf, e, he⟩ := nearest_int (s := s) h0 hl hd
    rw [e]
    generalize hL : M.log2 = L at *
    have hb : (L + 1023) * 4503599627370496 + f < infF := by
      have hi : infF = 2047 * 4503599627370496 := rfl
      have : (L + 1023) * 4503599627370496 ≤ 2023 * 4503599627370496 := Nat.mul_le_mul_right _ (by omega)
      omega
    have hi2 : infF < 9223372036854775808 := by decide
    obtain ⟨w1, w2⟩ := word_read (s := s) (r := (L + 1023) * 4503599627370496 + f) (by omega)
    have hge : ¬ (L + 1023) * 4503599627370496 + f < 4503599627370496 := by
      have : 1 * 4503599627370496 ≤ (L + 1023) * 4503599627370496 := Nat.mul_le_mul_right _ (by omega)
      omega
    have hmod : ((L + 1023) * 4503599627370496 + f) % 4503599627370496 = f := by omega
    have hdiv : ((L + 1023) * 4503599627370496 + f) / 4503599627370496 = L + 1023 := by omega
    have hma : maF ((L + 1023) * 4503599627370496 + f) = 4503599627370496 + f := by unfold maF; rw [if_neg hge, hmod]
    have hpl : plF ((L + 1023) * 4503599627370496 + f) = L + 1022 := by unfold plF; rw [if_neg hge, hdiv]; omega
    have p52 : (2 : Nat) ^ 52 = 4503599627370496 := by decide
    have hkey : (4503599627370496 + f) * 2 ^ (L + 1022) = M * E1074 := by
      rw [Nat.pow_add, ← Nat.mul_assoc, he, Nat.mul_assoc, E_add (a := 52) (b := 1022) rfl, p52]
    refine ⟨?_, ?_, ?_⟩
    · unfold keyF
      rw [w1, w2, if_pos (by omega)]
      unfold mgF
      rw [hma, hpl, hkey]
    · rw [read_num (by rw [w1]; exact hb), w1, w2, hma, hpl]
      simp only [Datum.toInt, Datum.integral]
      rw [cut_zero, signed_sgn, Nat.pow_zero, Nat.mul_one, Nat.shiftLeft_eq]
      refine congrArg some (congrArg (sgn s) ?_)
      by_cases h52 : 52 ≤ L
      · have e1 : (-1074 + ((L + 1022 : Nat) : Int)).toNat = L - 52 := by omega
        have e2 : (-(-1074 + ((L + 1022 : Nat) : Int))).toNat = 0 := by omega
        rw [e1, e2, Nat.pow_zero, Nat.div_one]
        have hp : (2 : Nat) ^ L = 2 ^ (L - 52) * 4503599627370496 := by rw [← p52, ← Nat.pow_add, Nat.sub_add_cancel h52]
        rw [hp, ← Nat.mul_assoc] at he
        exact Nat.eq_of_mul_eq_mul_right (by decide) he
      · have e1 : (-1074 + ((L + 1022 : Nat) : Int)).toNat = 0 := by omega
        have e2 : (-(-1074 + ((L + 1022 : Nat) : Int))).toNat = 52 - L := by omega
        rw [e1, e2, Nat.pow_zero, Nat.mul_one]
        have hp : (4503599627370496 : Nat) = 2 ^ (52 - L) * 2 ^ L := by rw [← p52, ← Nat.pow_add, Nat.sub_add_cancel (by omega)]
        have he2 : (4503599627370496 + f) * 2 ^ L = (M * 2 ^ (52 - L)) * 2 ^ L := by rw [he, Nat.mul_assoc, ← hp]
        rw [Nat.eq_of_mul_eq_mul_right (Nat.two_pow_pos L) he2, Nat.mul_div_cancel _ (Nat.two_pow_pos _)]
    · rw [word_dbl]
      have hb3 := Nat.lt_trans hb hi2
      cases s
      · exact Nat.lt_trans hb3 (by decide)
      · exact Nat.lt_of_lt_of_eq (Nat.add_lt_add_left hb3 9223372036854775808) (by decide)

/-- The whole part of a float that lies between the ends of the whole numbers. -/
def trF (x : Nat) : Nat := double.write ((double.read x).integral .zero)
theorem trunc_ {x : Nat} {a : Int} (k : keyF x = some a) (h1 : -(9223372036854775808 * (E1074 : Int)) ≤ a) (h2 : a < 9223372036854775808 * (E1074 : Int)) :
    ∃ w : Int, (double.read (trF x)).toInt .zero = some w ∧ -9223372036854775808 ≤ w ∧ w ≤ 9223372036854775807 ∧ keyF (trF x) = some (w * (E1074 : Int)) ∧ trF x < 18446744073709551616 ∧ (0 ≤ a → w = a / (E1074 : Int)) ∧ (a ≤ 0 → w = -((-a) / (E1074 : Int))) := by
  unfold keyF at k
  split at k
  case isFalse => cases k
  rename_i hr
  have k := Option.some.inj k
  have hbig : (9223372036854775808 * E1074 : Nat) < mgF infF := by
    have e1 : maF infF = 4503599627370496 := by decide
    have e2 : plF infF = 2046 := by decide
    unfold mgF
    obtain ⟨q, hq, hq2⟩ : ∃ q, 2046 = q + 1074 ∧ 12 ≤ q := ⟨972, rfl, by omega⟩
    rw [e1, e2, E_split hq, ← Nat.mul_assoc]
    refine Nat.mul_lt_mul_of_pos_right ?_ E_pos
    have : (2 : Nat) ^ 12 ≤ 2 ^ q := Nat.pow_le_pow_right (by omega) hq2
    have e3 : (2 : Nat) ^ 12 = 4096 := by decide
    have := Nat.mul_le_mul_left 4503599627370496 this
    omega
  generalize hmg : mgF (rungF x) = G at k
  have hG : G ≤ 9223372036854775808 * E1074 := by
    unfold sgn at k
    split at k <;> omega
  have hn : rungF x < infF := by
    rcases Nat.lt_or_eq_of_le hr with q | q
    · exact q
    · rw [q] at hmg; omega
  -- the whole part's digits
  have e1 : (double.read x).integral .zero = .number (sgF x) (G / E1074) 0 := by
    rw [read_num hn]
    show Datum.number (sgF x) (Toward.zero.cut (sgF x) (maF (rungF x) <<< (-1074 + (plF (rungF x) : Int)).toNat) (-(-1074 + (plF (rungF x) : Int))).toNat) 0 = _
    rw [cut_zero, Nat.shiftLeft_eq]
    refine congrArg (fun z => Datum.number (sgF x) z 0) ?_
    rw [← hmg]
    unfold mgF
    generalize plF (rungF x) = p
    generalize maF (rungF x) = m
    by_cases h : 1074 ≤ p
    · have a1 : (-1074 + (p : Int)).toNat = p - 1074 := by omega
      have a2 : (-(-1074 + (p : Int))).toNat = 0 := by omega
      rw [a1, a2, Nat.pow_zero, Nat.div_one]
      rw [E_split (p := p) (q := p - 1074) (by omega), ← Nat.mul_assoc, Nat.mul_div_cancel _ E_pos]
    · have a1 : (-1074 + (p : Int)).toNat = 0 := by omega
      have a2 : (-(-1074 + (p : Int))).toNat = 1074 - p := by omega
      rw [a1, a2, Nat.pow_zero, Nat.mul_one]
      rw [E_add (a := 1074 - p) (b := p) (by omega), Nat.mul_div_mul_right _ _ (Nat.two_pow_pos _)]
  have hM : G / E1074 ≤ 9223372036854775808 := by
    have := Nat.div_le_div_right (c := E1074) hG
    rwa [Nat.mul_div_cancel _ E_pos] at this
  have hlog : (G / E1074).log2 ≤ 63 := by
    by_cases h0 : G / E1074 = 0
    · rw [h0]; decide
    · have h3 := Nat.log2_self_le h0
      rcases Nat.lt_or_ge 63 (G / E1074).log2 with q | q
      · have : (2 : Nat) ^ 64 ≤ 2 ^ (G / E1074).log2 := Nat.pow_le_pow_right (by omega) (by omega)
        have : (2 : Nat) ^ 64 = 18446744073709551616 := by decide
        omega
      · exact q
  have hdv : 52 < (G / E1074).log2 → 2 ^ ((G / E1074).log2 - 52) ∣ G / E1074 := by
    intro hL
    have hne : G / E1074 ≠ 0 := fun q => by rw [q] at hL; simp at hL
    have hlo := Nat.log2_self_le hne
    -- the place is beyond the point
    have hm53 : maF (rungF x) < 2 ^ 53 := by
      have : (2 : Nat) ^ 53 = 9007199254740992 := by decide
      unfold maF
      split <;> omega
    have hp : 1074 ≤ plF (rungF x) := by
      rcases Nat.lt_or_ge (plF (rungF x)) 1074 with q | q
      · have hG2 : G / E1074 < 2 ^ 53 := by
          rw [← hmg]
          unfold mgF
          rw [Nat.div_lt_iff_lt_mul E_pos]
          have : 2 ^ plF (rungF x) ≤ E1074 := E_ge q
          exact Nat.mul_lt_mul_of_lt_of_le hm53 this E_pos
        have : (2 : Nat) ^ 53 ≤ 2 ^ (G / E1074).log2 := Nat.pow_le_pow_right (by omega) (by omega)
        omega
      · exact q
    have hGM : G / E1074 = maF (rungF x) * 2 ^ (plF (rungF x) - 1074) := by
      rw [← hmg]
      unfold mgF
      rw [E_split (p := plF (rungF x)) (q := plF (rungF x) - 1074) (by omega), ← Nat.mul_assoc, Nat.mul_div_cancel _ E_pos]
    have hle : (G / E1074).log2 - 52 ≤ plF (rungF x) - 1074 := by
      rcases Nat.lt_or_ge (plF (rungF x) - 1074) ((G / E1074).log2 - 52) with q | q
      · have a1 : G / E1074 < 2 ^ 53 * 2 ^ (plF (rungF x) - 1074) := by rw [hGM]; exact Nat.mul_lt_mul_of_pos_right hm53 (Nat.two_pow_pos _)
        rw [← Nat.pow_add] at a1
        have a2 : (2 : Nat) ^ (53 + (plF (rungF x) - 1074)) ≤ 2 ^ (G / E1074).log2 := Nat.pow_le_pow_right (by omega) (by omega)
        omega
      · exact q
    rw [hGM] at hle ⊢
    exact Nat.dvd_trans (Nat.pow_dvd_pow 2 hle) (Nat.dvd_mul_left _ _)
  obtain ⟨r1, r2, r3⟩ := read_int' (s := sgF x) (M := G / E1074) (by omega) hdv
  have etr : trF x = double.nearest (sgF x) (G / E1074) 0 := by
    unfold trF
    rw [e1]
    rfl
  rw [etr]
  have hpos : (0 : Int) < (E1074 : Int) := Int.ofNat_lt.2 E_pos
  refine ⟨_, r2, ?_, ?_, ?_, r3, ?_, ?_⟩
  · unfold sgn
    generalize G / E1074 = M at hM ⊢
    split <;> omega
  · unfold sgn at k ⊢
    split
    · generalize G / E1074 = M at hM ⊢
      omega
    · rename_i hs
      rw [if_neg hs] at k
      have hlt : G < 9223372036854775808 * E1074 := by omega
      have : G / E1074 < 9223372036854775808 := (Nat.div_lt_iff_lt_mul E_pos).2 hlt
      generalize G / E1074 = M at this ⊢
      omega
  · rw [r1, sgn_mul]
  · intro ha
    unfold sgn at k ⊢
    split
    · rename_i hs
      rw [if_pos hs] at k
      have hG0 : G = 0 := by omega
      rw [hG0] at k ⊢
      rw [← k]
      simp
    · rename_i hs
      rw [if_neg hs] at k
      rw [← k]
      rfl
  · intro ha
    unfold sgn at k ⊢
    split
    · rename_i hs
      rw [if_pos hs] at k
      rw [← k, Int.neg_neg]
      rfl
    · rename_i hs
      rw [if_neg hs] at k
      have hG0 : G = 0 := by omega
      rw [hG0] at k ⊢
      rw [← k]
      simp
end Go.Ab
