/-
  Floats beside whole numbers, and their floors: what is near, what is left.
-/
import Derived.Test.YtnlcjindeoaklaaFlC
set_option linter.unusedVariables false
set_option linter.unusedSimpArgs false
set_option maxRecDepth 4000
namespace Go.Proofs.Ytnlcjindeoaklaa
open Go.Ab Ieee

/-- What is kept is not more than it may be. -/
theorem cut_even_le (s : Bool) (n drop : Nat) (hl : drop ≤ n.log2 + 2) : n / 2 ^ drop ≤ Toward.even.cut s n drop ∧ Toward.even.cut s n drop ≤ n / 2 ^ drop + 1 := by
  unfold Toward.cut
  simp only [Nat.min_eq_left hl, Nat.shiftLeft_eq, Nat.one_mul]
  generalize (decide (2 ^ drop < 2 * (n % 2 ^ drop)) || (2 ^ drop == 2 * (n % 2 ^ drop) && n / 2 ^ drop % 2 == 1)) = b
  cases b <;> simp

/-- A number that is not nought is told as none that is. -/
theorem nearest_pos {s : Bool} {mag : Nat} {place : Int} (h0 : mag ≠ 0) (hp : -1074 ≤ place) : ∃ R, double.nearest s mag place = double.word s R ∧ 1 ≤ R ∧ R ≤ infF := by
  have hinf : 1 ≤ infF := by decide
  unfold Format.nearest
  rw [if_neg h0]
  refine ⟨_, rfl, ?_, Nat.min_le_right _ _⟩
  rw [dbl_inf, dbl_bin, dbl_least, dbl_frac]
  refine Nat.le_min.2 ⟨?_, hinf⟩
  refine Nat.le_trans ?_ (Nat.le_add_left _ _)
  generalize hL : mag.log2 = L
  by_cases h : L ≤ 52 ∨ max (place + (L : Int) - ((52 : Nat) : Int)) (-1074) ≤ place
  · have e : (max (place + (L : Int) - ((52 : Nat) : Int)) (-1074) - place).toNat = 0 := by omega
    rw [e]
    have := (cut_even_le s (mag <<< (place - max (place + (L : Int) - ((52 : Nat) : Int)) (-1074)).toNat) 0 (by omega)).1
    rw [Nat.pow_zero, Nat.div_one] at this
    refine Nat.le_trans ?_ this
    rw [Nat.shiftLeft_eq]
    have h2 := Nat.two_pow_pos (place - max (place + (L : Int) - ((52 : Nat) : Int)) (-1074)).toNat
    exact Nat.mul_pos (Nat.pos_of_ne_zero h0) h2
  · have e : (max (place + (L : Int) - ((52 : Nat) : Int)) (-1074) - place).toNat = L - 52 := by omega
    have e2 : (place - max (place + (L : Int) - ((52 : Nat) : Int)) (-1074)).toNat = 0 := by omega
    rw [e, e2, Nat.shiftLeft_zero]
    refine Nat.le_trans ?_ (cut_even_le s mag (L - 52) (by omega)).1
    rw [Nat.le_div_iff_mul_le (Nat.two_pow_pos _), Nat.one_mul]
    have := Nat.log2_self_le h0
    rw [hL] at this
    exact Nat.le_trans (Nat.pow_le_pow_right (by omega) (by omega)) this
theorem key_nearest {s : Bool} {mag : Nat} {place : Int} (hp : -1074 ≤ place) : (mag = 0 → keyF (double.nearest s mag place) = some 0) ∧ (mag ≠ 0 → ∃ p, keyF (double.nearest s mag place) = some p ∧ p ≠ 0) := by
  refine ⟨fun h => ?_, fun h => ?_⟩
  · subst h
    have e : double.nearest s 0 place = double.word s 0 := by unfold Format.nearest; rw [if_pos rfl]
    rw [e]
    cases s <;> decide
  · obtain ⟨R, e, h1, h2⟩ := nearest_pos (s := s) h hp
    have hi : infF < 9223372036854775808 := by decide
    obtain ⟨w1, w2⟩ := word_read (s := s) (r := R) (by omega)
    rw [e]
    refine ⟨sgn s (mgF R), ?_, ?_⟩
    · unfold keyF
      rw [w1, w2, if_pos h2]
    · have : mgF 0 < mgF R := mg_lt (by omega)
      rw [mg_zero] at this
      unfold sgn
      split <;> omega

/-- Floats that are no more than so great. -/
structure Fin (x : Nat) : Prop where
  lt : x < 18446744073709551616
  rung : rungF x ≤ 1088 * 4503599627370496
theorem Fin.fin {x : Nat} (h : Fin x) : rungF x < infF := by
  have := h.rung
  have hi : infF = 2047 * 4503599627370496 := rfl
  omega
theorem Fin.key {x : Nat} (h : Fin x) : keyF x = some (sgn (sgF x) (mgF (rungF x))) := by
  have := h.fin
  unfold keyF
  rw [if_pos (by omega)]

/-- A whole number as a float. -/
theorem fin_near (n : Int) (hn : In64 n) : Fin (FloatKind.f64.nearest n) ∧ rungF (FloatKind.f64.nearest n) ≤ 1087 * 4503599627370496 := by
  have e0 : FloatKind.f64.nearest n = double.nearest (decide (n < 0)) n.natAbs 0 := rfl
  rw [e0]
  have hM : n.natAbs ≤ 9223372036854775808 := by have := hn.1; have := hn.2; omega
  generalize n.natAbs = M at hM
  generalize decide (n < 0) = s
  have key : ∃ R, double.nearest s M 0 = double.word s R ∧ R ≤ 1087 * 4503599627370496 := by
    by_cases h0 : M = 0
    · subst h0
      exact ⟨0, by unfold Format.nearest; rw [if_pos rfl], by omega⟩
    · have hlog : M.log2 ≤ 63 := by
        have h3 := Nat.log2_self_le h0
        rcases Nat.lt_or_ge 63 M.log2 with q | q
        · have : (2 : Nat) ^ 64 ≤ 2 ^ M.log2 := Nat.pow_le_pow_right (by omega) (by omega)
          have : (2 : Nat) ^ 64 = 18446744073709551616 := by decide
          omega
        · exact q
      have hhi : M < 2 ^ (M.log2 + 1) := Nat.lt_log2_self
      unfold Format.nearest
      rw [if_neg h0]
      refine ⟨_, rfl, ?_⟩
      rw [dbl_inf, dbl_bin, dbl_least, dbl_frac]
      refine Nat.le_trans (Nat.min_le_left _ _) ?_
      generalize hL : M.log2 = L at *
      have e1 : (max ((0 : Int) + (L : Int) - ((52 : Nat) : Int)) (-1074) - -1074).toNat = L + 1022 := by omega
      rw [e1]
      have hk : Toward.even.cut s (M <<< ((0 : Int) - max ((0 : Int) + (L : Int) - ((52 : Nat) : Int)) (-1074)).toNat) (max ((0 : Int) + (L : Int) - ((52 : Nat) : Int)) (-1074) - (0 : Int)).toNat ≤ 9007199254740992 := by
        have p53 : (2 : Nat) ^ 53 = 9007199254740992 := by decide
        by_cases h : L ≤ 52
        · have a1 : ((0 : Int) - max ((0 : Int) + (L : Int) - ((52 : Nat) : Int)) (-1074)).toNat = 52 - L := by omega
          have a2 : (max ((0 : Int) + (L : Int) - ((52 : Nat) : Int)) (-1074) - (0 : Int)).toNat = 0 := by omega
          rw [a1, a2]
          refine Nat.le_trans (cut_even_le s _ 0 (by omega)).2 ?_
          rw [Nat.pow_zero, Nat.div_one, Nat.shiftLeft_eq]
          have : M * 2 ^ (52 - L) < 2 ^ (L + 1) * 2 ^ (52 - L) := Nat.mul_lt_mul_of_pos_right hhi (Nat.two_pow_pos _)
          rw [← Nat.pow_add, show L + 1 + (52 - L) = 53 by omega, p53] at this
          omega
        · have a1 : ((0 : Int) - max ((0 : Int) + (L : Int) - ((52 : Nat) : Int)) (-1074)).toNat = 0 := by omega
          have a2 : (max ((0 : Int) + (L : Int) - ((52 : Nat) : Int)) (-1074) - (0 : Int)).toNat = L - 52 := by omega
          rw [a1, a2, Nat.shiftLeft_zero]
          refine Nat.le_trans (cut_even_le s _ (L - 52) (by omega)).2 ?_
          have : M / 2 ^ (L - 52) < 9007199254740992 := by
            rw [Nat.div_lt_iff_lt_mul (Nat.two_pow_pos _), ← p53, ← Nat.pow_add, show 53 + (L - 52) = L + 1 by omega]
            exact hhi
          omega
      generalize Toward.even.cut s (M <<< ((0 : Int) - max ((0 : Int) + (L : Int) - ((52 : Nat) : Int)) (-1074)).toNat) (max ((0 : Int) + (L : Int) - ((52 : Nat) : Int)) (-1074) - (0 : Int)).toNat = k at hk
      clear e1 hhi hL
      omega
  obtain ⟨R, e, hR⟩ := key
  rw [e]
  obtain ⟨w1, w2⟩ := word_read (s := s) (r := R) (by omega)
  refine ⟨⟨?_, by rw [w1]; omega⟩, by rw [w1]; omega⟩
  rw [word_dbl]
  split <;> omega

/-- The next one, and the one ahead. -/
theorem fin_next {x : Nat} (h : Fin x) (hr : rungF x ≤ 1087 * 4503599627370496) (h0 : rungF x ≠ 0) : Fin (x + 1) ∧ Fin (x - 1) ∧ 1 ≤ x := by
  obtain ⟨h1, h2⟩ := h
  unfold rungF at *
  refine ⟨⟨by omega, by unfold rungF; omega⟩, ⟨by omega, by unfold rungF; omega⟩, by omega⟩

/-! ### floors -/

theorem cut_down (s : Bool) (n drop : Nat) : Toward.down.cut s n drop = n / 2 ^ drop + (s && n % 2 ^ drop != 0).toNat := by
  unfold Toward.cut
  rw [Nat.shiftLeft_eq, Nat.one_mul]
  by_cases h : drop ≤ n.log2 + 2
  · rw [Nat.min_eq_left h]
  · rw [Nat.min_eq_right (by omega)]
    have h1 : n < 2 ^ (n.log2 + 1) := Nat.lt_log2_self
    have h2 : 2 ^ (n.log2 + 1) ≤ 2 ^ (n.log2 + 2) := Nat.pow_le_pow_right (by omega) (by omega)
    have h3 : 2 ^ (n.log2 + 2) ≤ 2 ^ drop := Nat.pow_le_pow_right (by omega) (by omega)
    have g1 : n < 2 ^ (n.log2 + 2) := by omega
    have g2 : n < 2 ^ drop := by omega
    simp only [Nat.div_eq_of_lt g1, Nat.div_eq_of_lt g2, Nat.mod_eq_of_lt g1, Nat.mod_eq_of_lt g2]
def flF (x : Nat) : Nat := double.write ((double.read x).integral .down)

/-- A magnitude cut at the point: whole part and what is left. -/
theorem cut_mg (r : Nat) (s : Bool) : Toward.down.cut s (maF r <<< (-1074 + (plF r : Int)).toNat) (-(-1074 + (plF r : Int))).toNat = mgF r / E1074 + (s && mgF r % E1074 != 0).toNat := by
  rw [cut_down, Nat.shiftLeft_eq]
  unfold mgF
  generalize plF r = p
  generalize maF r = m
  by_cases h : 1074 ≤ p
  · have a1 : (-1074 + (p : Int)).toNat = p - 1074 := by omega
    have a2 : (-(-1074 + (p : Int))).toNat = 0 := by omega
    rw [a1, a2, Nat.pow_zero, Nat.div_one, E_split (p := p) (q := p - 1074) (by omega), ← Nat.mul_assoc, Nat.mul_div_cancel _ E_pos, Nat.mod_one, Nat.mul_mod_left]
  · have a1 : (-1074 + (p : Int)).toNat = 0 := by omega
    have a2 : (-(-1074 + (p : Int))).toNat = 1074 - p := by omega
    rw [a1, a2, Nat.pow_zero, Nat.mul_one, E_add (a := 1074 - p) (b := p) (by omega), Nat.mul_div_mul_right _ _ (Nat.two_pow_pos _), Nat.mul_mod_mul_right]
    have hp := Nat.two_pow_pos p
    have : (m % 2 ^ (1074 - p) != 0) = (m % 2 ^ (1074 - p) * 2 ^ p != 0) := by
      by_cases q : m % 2 ^ (1074 - p) = 0
      · rw [q]; simp
      · have : m % 2 ^ (1074 - p) * 2 ^ p ≠ 0 := Nat.mul_ne_zero q (by omega)
        rw [bne_iff_ne.2 q, bne_iff_ne.2 this]
    rw [this]

theorem floor_ {x : Nat} {a : Int} (k : keyF x = some a) (h1 : -(9223372036854775808 * (E1074 : Int)) ≤ a) (h2 : a < 9223372036854775808 * (E1074 : Int)) :
    ∃ w : Int, (double.read (flF x)).toInt .zero = some w ∧ -9223372036854775808 ≤ w ∧ w ≤ 9223372036854775807 ∧ keyF (flF x) = some (w * (E1074 : Int)) ∧ w = a / (E1074 : Int) ∧ rungF x < infF ∧ flF x < 18446744073709551616 := by
  unfold keyF at k
  split at k
  case isFalse => cases k
  rename_i hr
  have k := Option.some.inj k
  have hbig : (9223372036854775808 * E1074 : Nat) < mgF infF := by
    have e1 : maF infF = 4503599627370496 := by decide
    have e2 : plF infF = 2046 := by decide
    unfold mgF
    obtain ⟨q, hq, hq2⟩ : ∃ q, 2046 = q + 1074 ∧ 12 ≤ q := ⟨972, rfl, by omega⟩
    rw [e1, e2, E_split hq, ← Nat.mul_assoc]
    refine Nat.mul_lt_mul_of_pos_right ?_ E_pos
    have : (2 : Nat) ^ 12 ≤ 2 ^ q := Nat.pow_le_pow_right (by omega) hq2
    have e3 : (2 : Nat) ^ 12 = 4096 := by decide
    have := Nat.mul_le_mul_left 4503599627370496 this
    omega
  have e1 : ∀ hn : rungF x < infF, (double.read x).integral .down = .number (sgF x) (mgF (rungF x) / E1074 + (sgF x && mgF (rungF x) % E1074 != 0).toNat) 0 := by
    intro hn
    rw [read_num hn]
    simp only [Datum.integral]
    rw [cut_mg]
  have hma : ∀ r, maF r < 2 ^ 53 := by
    intro r
    have : (2 : Nat) ^ 53 = 9007199254740992 := by decide
    unfold maF
    split <;> omega
  have hdvd0 : ∀ r, 1074 ≤ plF r → mgF r % E1074 = 0 ∧ mgF r / E1074 = maF r * 2 ^ (plF r - 1074) := by
    intro r hp
    unfold mgF
    rw [E_split (p := plF r) (q := plF r - 1074) (by omega), ← Nat.mul_assoc]
    exact ⟨Nat.mul_mod_left _ _, Nat.mul_div_cancel _ E_pos⟩
  have hsm0 : ∀ r, plF r < 1074 → mgF r / E1074 < 2 ^ 52 := by
    intro r hp
    unfold mgF
    obtain ⟨b, hb⟩ : ∃ b, 1 + b = 1074 := ⟨1073, rfl⟩
    rw [Nat.div_lt_iff_lt_mul E_pos, E_add hb]
    have h3 : 2 ^ plF r ≤ 2 ^ b := Nat.pow_le_pow_right (by omega) (by omega)
    have h4 := hma (r)
    have h5 : (2 : Nat) ^ 53 = 2 ^ 52 * 2 ^ 1 := by decide
    rw [← Nat.mul_assoc, ← h5]
    exact Nat.mul_lt_mul_of_lt_of_le h4 h3 (Nat.two_pow_pos _)
  generalize hmg : mgF (rungF x) = G at *
  have hG : G ≤ 9223372036854775808 * E1074 := by
    unfold sgn at k
    split at k <;> omega
  have hn : rungF x < infF := by
    rcases Nat.lt_or_eq_of_le hr with q | q
    · exact q
    · rw [q] at hmg; omega
  have e1 := e1 hn
  have hdiv : G / E1074 ≤ 9223372036854775808 := by
    have := Nat.div_le_div_right (c := E1074) hG
    rwa [Nat.mul_div_cancel _ E_pos] at this
  have hedm : E1074 * (G / E1074) + G % E1074 = G := Nat.div_add_mod G E1074
  -- the floor's magnitude
  have hM : G / E1074 + (sgF x && G % E1074 != 0).toNat ≤ 9223372036854775808 := by
    by_cases q : G % E1074 = 0
    · simp [q]; exact hdiv
    · have : G / E1074 < 9223372036854775808 := by
        rcases Nat.lt_or_eq_of_le hdiv with z | z
        · exact z
        · rw [z] at hedm; rw [Nat.mul_comm] at hG; omega
      have : (sgF x && G % E1074 != 0).toNat ≤ 1 := Bool.toNat_le _
      omega
  generalize hMM : G / E1074 + (sgF x && G % E1074 != 0).toNat = M at hM e1
  have hlog : M.log2 ≤ 63 := by
    by_cases h0 : M = 0
    · rw [h0]; decide
    · have h3 := Nat.log2_self_le h0
      rcases Nat.lt_or_ge 63 M.log2 with q | q
      · have : (2 : Nat) ^ 64 ≤ 2 ^ M.log2 := Nat.pow_le_pow_right (by omega) (by omega)
        have : (2 : Nat) ^ 64 = 18446744073709551616 := by decide
        omega
      · exact q
  have hdv : 52 < M.log2 → 2 ^ (M.log2 - 52) ∣ M := by
    intro hL
    have hne : M ≠ 0 := fun q => by rw [q] at hL; simp at hL
    have hlo := Nat.log2_self_le hne
    rcases Nat.lt_or_ge (plF (rungF x)) 1074 with q | q
    · have a1 := hsm0 _ q
      rw [hmg] at a1
      have : (sgF x && G % E1074 != 0).toNat ≤ 1 := Bool.toNat_le _
      have a2 : (2 : Nat) ^ 53 ≤ 2 ^ M.log2 := Nat.pow_le_pow_right (by omega) (by omega)
      have a3 : (2 : Nat) ^ 53 = 9007199254740992 := by decide
      have a4 : (2 : Nat) ^ 52 = 4503599627370496 := by decide
      omega
    · obtain ⟨b1, b2⟩ := hdvd0 _ q
      rw [hmg] at b1 b2
      have hMe : M = maF (rungF x) * 2 ^ (plF (rungF x) - 1074) := by rw [← hMM, b1, b2]; simp
      have hle : M.log2 - 52 ≤ plF (rungF x) - 1074 := by
        rcases Nat.lt_or_ge (plF (rungF x) - 1074) (M.log2 - 52) with z | z
        · have a1 : M < 2 ^ 53 * 2 ^ (plF (rungF x) - 1074) := by rw [hMe]; exact Nat.mul_lt_mul_of_pos_right (hma _) (Nat.two_pow_pos _)
          rw [← Nat.pow_add] at a1
          have a2 : (2 : Nat) ^ (53 + (plF (rungF x) - 1074)) ≤ 2 ^ M.log2 := Nat.pow_le_pow_right (by omega) (by omega)
          omega
        · exact z
      have hd2 : 2 ^ (plF (rungF x) - 1074) ∣ M := ⟨maF (rungF x), by rw [hMe, Nat.mul_comm]⟩
      exact Nat.dvd_trans (Nat.pow_dvd_pow 2 hle) hd2
  obtain ⟨r1, r2, r3⟩ := read_int' (s := sgF x) (M := M) (by omega) hdv
  have etr : flF x = double.nearest (sgF x) M 0 := by
    unfold flF
    rw [e1]
    rfl
  rw [etr]
  have hpos : (0 : Int) < (E1074 : Int) := Int.ofNat_lt.2 E_pos
  -- the floor, as whole numbers divide
  have hw : sgn (sgF x) M = a / (E1074 : Int) := by
    rw [← k]
    cases hs : sgF x with
    | false =>
      rw [hs] at hMM
      simp only [Bool.false_and, Bool.toNat_false, Nat.add_zero] at hMM
      show (M : Int) = (G : Int) / (E1074 : Int)
      rw [← hMM]; rfl
    | true =>
      rw [hs] at hMM
      simp only [Bool.true_and] at hMM
      show -(M : Int) = -(G : Int) / (E1074 : Int)
      by_cases q : G % E1074 = 0
      · have hMq : M = G / E1074 := by rw [← hMM, q]; simp
        have hGq : (G : Int) = (M : Int) * (E1074 : Int) := by
          rw [hMq]
          have : G = G / E1074 * E1074 := by rw [Nat.mul_comm]; omega
          exact_mod_cast this
        rw [hGq, ← Int.neg_mul, Int.mul_ediv_cancel _ (by omega)]
      · have hMq : M = G / E1074 + 1 := by rw [← hMM]; simp [q]
        have hlt := Nat.mod_lt G E_pos
        have e2 : -(G : Int) = (-(M : Int)) * (E1074 : Int) + ((E1074 - G % E1074 : Nat) : Int) := by
          rw [hMq]
          have h3 : (G : Int) = (E1074 : Int) * ((G / E1074 : Nat) : Int) + ((G % E1074 : Nat) : Int) := by exact_mod_cast hedm.symm
          have h4 : ((E1074 - G % E1074 : Nat) : Int) = (E1074 : Int) - ((G % E1074 : Nat) : Int) := by omega
          have h5 : -(((G / E1074 + 1 : Nat) : Int)) * (E1074 : Int) = -((E1074 : Int) * ((G / E1074 : Nat) : Int)) - (E1074 : Int) := by
            push_cast
            rw [Int.neg_mul, Int.add_mul, Int.one_mul, Int.mul_comm]
            omega
          rw [h5, h4]
          omega
        rw [e2, Int.add_comm, Int.add_mul_ediv_right _ _ (by omega), Int.ediv_eq_zero_of_lt (by omega) (by omega)]
        omega
  refine ⟨_, r2, ?_, ?_, ?_, hw, hn, r3⟩
  · unfold sgn; split <;> omega
  · rw [hw]
    have : a / (E1074 : Int) < 9223372036854775808 := Int.ediv_lt_of_lt_mul hpos (by omega)
    omega
  · rw [r1, sgn_mul]

/-- What is left of a float, beside its floor: is it nought? -/
theorem rest_ {x y : Nat} {p q : Int} (kx : keyF x = some p) (ky : keyF y = some q) (hx : rungF x < infF) (hy : rungF y < infF) : ∃ r a, double.sub x y = some r ∧ keyF r = some a ∧ (a = 0 ↔ p = q) := by
  unfold Format.sub
  rw [read_num hx, read_num hy]
  simp only [Datum.opposite, Datum.sum, Option.map_some]
  have kx' : sgn (sgF x) (mgF (rungF x)) = p := by
    unfold keyF at kx
    rw [if_pos (by omega)] at kx
    exact Option.some.inj kx
  have ky' : sgn (sgF y) (mgF (rungF y)) = q := by
    unfold keyF at ky
    rw [if_pos (by omega)] at ky
    exact Option.some.inj ky
  unfold mgF at kx' ky'
  generalize maF (rungF x) = m at *
  generalize plF (rungF x) = i at *
  generalize maF (rungF y) = n at *
  generalize plF (rungF y) = j at *
  generalize sgF x = s at *
  generalize sgF y = t at *
  rw [signed_sgn, signed_sgn]
  generalize hb : min (-1074 + (i : Int)) (-1074 + (j : Int)) = base
  have hbase : -1074 ≤ base := by omega
  generalize hT : sgn s (m * 2 ^ (-1074 + (i : Int) - base).toNat) + sgn (!t) (n * 2 ^ (-1074 + (j : Int) - base).toNat) = T
  have hneg : ∀ z : Nat, sgn (!t) z = -sgn t z := by intro z; unfold sgn; cases t <;> simp
  rw [hneg] at hT
  have hTz : T = 0 ↔ p = q := by
    have hc := cmp_place s t m n i j
    rw [hb] at hc
    have h1 : sgn s (m * 2 ^ (-1074 + (i : Int) - base).toNat) = sgn t (n * 2 ^ (-1074 + (j : Int) - base).toNat) ↔ p = q := by
      rw [← cmp_iff_eq, hc, kx', ky', cmp_iff_eq]
    rw [← h1]
    omega
  obtain ⟨z1, z2⟩ := key_nearest (s := if T = 0 then s && !t else decide (T < 0)) (mag := T.natAbs) hbase
  by_cases h0 : T = 0
  · exact ⟨_, 0, rfl, z1 (by omega), by simp [hTz.1 h0]⟩
  · obtain ⟨a, ka, ha⟩ := z2 (by omega)
    exact ⟨_, a, rfl, ka, ⟨fun e => absurd e ha, fun e => absurd (hTz.2 e) h0⟩⟩
end Go.Proofs.Ytnlcjindeoaklaa
