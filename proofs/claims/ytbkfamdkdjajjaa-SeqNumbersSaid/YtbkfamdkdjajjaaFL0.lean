/-
  How floats stand to one another: by a whole number that each one has.
-/
import Derived.Test.YtbkfamdkdjajjaaOps
set_option linter.unusedVariables false
set_option linter.unusedSimpArgs false
namespace Go.Ab
open Ieee

def rungF (x : Nat) : Nat := x % 9223372036854775808
def sgF (x : Nat) : Bool := x / 9223372036854775808 % 2 == 1
def maF (r : Nat) : Nat := if r < 4503599627370496 then r else 4503599627370496 + r % 4503599627370496
def plF (r : Nat) : Nat := if r < 4503599627370496 then 0 else r / 4503599627370496 - 1
def mgF (r : Nat) : Nat := maF r * 2 ^ plF r
def infF : Nat := 9218868437227405312
def sgn (s : Bool) (n : Nat) : Int := if s then -(n : Int) else n
def keyF (x : Nat) : Option Int := if rungF x ≤ infF then some (sgn (sgF x) (mgF (rungF x))) else none

theorem dbl_sw : double.signWeight = 9223372036854775808 := rfl
theorem dbl_bin : double.binade = 4503599627370496 := rfl
theorem dbl_inf : double.infRung = infF := rfl
theorem dbl_least : double.leastPlace = -1074 := rfl

theorem read_num {x : Nat} (h : rungF x < infF) : double.read x = .number (sgF x) (maF (rungF x)) (-1074 + (plF (rungF x) : Nat)) := by
  unfold Format.read
  rw [dbl_sw, dbl_bin, dbl_inf, dbl_least]
  show (if rungF x < 4503599627370496 then _ else if rungF x < infF then _ else _) = _
  unfold maF plF
  by_cases h1 : rungF x < 4503599627370496
  · rw [if_pos h1, if_pos h1, if_pos h1]; rfl
  · rw [if_neg h1, if_pos h, if_neg h1, if_neg h1]; rfl
theorem read_inf {x : Nat} (h : rungF x = infF) : double.read x = .infinity (sgF x) := by
  unfold Format.read
  rw [dbl_sw, dbl_bin, dbl_inf, dbl_least]
  show (if rungF x < 4503599627370496 then _ else if rungF x < infF then _ else if rungF x = infF then _ else _) = _
  rw [if_neg (by rw [h]; decide), if_neg (by omega), if_pos h]; rfl
theorem read_nan {x : Nat} (h : infF < rungF x) : double.read x = .nan (sgF x) (rungF x - infF) := by
  unfold Format.read
  rw [dbl_sw, dbl_bin, dbl_inf, dbl_least]
  show (if rungF x < 4503599627370496 then _ else if rungF x < infF then _ else if rungF x = infF then _ else _) = _
  have : infF = 9218868437227405312 := rfl
  rw [if_neg (by omega), if_neg (by omega), if_neg (by omega)]; rfl

theorem signed_sgn (s : Bool) (m k : Nat) : signed s m k = sgn s (m * 2 ^ k) := by
  unfold signed sgn
  rw [Nat.shiftLeft_eq]
theorem sgn_mul (s : Bool) (n c : Nat) : sgn s (n * c) = sgn s n * c := by
  unfold sgn
  cases s
  · simp
  · simp [Int.neg_mul]
theorem cmp_def (a b : Int) : compare a b = if a < b then .lt else if a = b then .eq else .gt := rfl
theorem cmp_scale (a b : Int) {c : Nat} (hc : 0 < c) : compare (a * c) (b * c) = compare a b := by
  have hc' : (0 : Int) < c := by omega
  rw [cmp_def, cmp_def]
  have h1 : a * c < b * c ↔ a < b := Int.mul_lt_mul_right hc'
  have h2 : a * c = b * c ↔ a = b := ⟨fun h => Int.eq_of_mul_eq_mul_right (by omega) h, fun h => by rw [h]⟩
  by_cases p : a < b
  · rw [if_pos (h1.2 p), if_pos p]
  · rw [if_neg (fun q => p (h1.1 q)), if_neg p]
    by_cases q : a = b
    · rw [if_pos (h2.2 q), if_pos q]
    · rw [if_neg (fun z => q (h2.1 z)), if_neg q]

theorem mg_lt {r r' : Nat} (h : r < r') : mgF r < mgF r' := by
  unfold mgF maF plF
  by_cases h1 : r < 4503599627370496
  · rw [if_pos h1, if_pos h1]
    by_cases h2 : r' < 4503599627370496
    · rw [if_pos h2, if_pos h2]; simpa using h
    · rw [if_neg h2, if_neg h2]
      have : 0 < 2 ^ (r' / 4503599627370496 - 1) := Nat.two_pow_pos _
      have h3 : (4503599627370496 + r' % 4503599627370496) * 1 ≤ (4503599627370496 + r' % 4503599627370496) * 2 ^ (r' / 4503599627370496 - 1) := Nat.mul_le_mul_left _ this
      simp only [Nat.pow_zero, Nat.mul_one] at h3 ⊢
      omega
  · have h2 : ¬ r' < 4503599627370496 := by omega
    rw [if_neg h1, if_neg h1, if_neg h2, if_neg h2]
    have hq : r / 4503599627370496 ≤ r' / 4503599627370496 := Nat.div_le_div_right (Nat.le_of_lt h)
    have h0 : 1 ≤ r / 4503599627370496 := by omega
    rcases Nat.lt_or_eq_of_le hq with k | k
    · have e : (4503599627370496 + r % 4503599627370496) * 2 ^ (r / 4503599627370496 - 1) < (2 * 4503599627370496) * 2 ^ (r / 4503599627370496 - 1) := Nat.mul_lt_mul_of_pos_right (by omega) (Nat.two_pow_pos _)
      have e2 : (2 * 4503599627370496) * 2 ^ (r / 4503599627370496 - 1) = 4503599627370496 * 2 ^ (r / 4503599627370496) := by
        have : r / 4503599627370496 = (r / 4503599627370496 - 1) + 1 := by omega
        rw [this, Nat.pow_succ]
        simp only [Nat.add_sub_cancel]
        rw [Nat.mul_comm 2, Nat.mul_assoc, Nat.mul_comm 2]
      have e3 : 2 ^ (r / 4503599627370496) ≤ 2 ^ (r' / 4503599627370496 - 1) := Nat.pow_le_pow_right (by omega) (by omega)
      have e4 : 4503599627370496 * 2 ^ (r / 4503599627370496) ≤ 4503599627370496 * 2 ^ (r' / 4503599627370496 - 1) := Nat.mul_le_mul_left _ e3
      have e5 : 4503599627370496 * 2 ^ (r' / 4503599627370496 - 1) ≤ (4503599627370496 + r' % 4503599627370496) * 2 ^ (r' / 4503599627370496 - 1) := Nat.mul_le_mul_right _ (by omega)
      omega
    · rw [k]
      have : r % 4503599627370496 < r' % 4503599627370496 := by omega
      exact Nat.mul_lt_mul_of_pos_right (by omega) (Nat.two_pow_pos _)
theorem mg_inj {r r' : Nat} (h : mgF r = mgF r') : r = r' := by
  rcases Nat.lt_trichotomy r r' with k | k | k
  · have := mg_lt k; omega
  · exact k
  · have := mg_lt k; omega
theorem mg_zero : mgF 0 = 0 := by decide

theorem cmp_lt {a b : Int} (h : a < b) : compare a b = .lt := by rw [cmp_def, if_pos h]
theorem cmp_gt {a b : Int} (h : b < a) : compare a b = .gt := by rw [cmp_def, if_neg (by omega), if_neg (by omega)]
theorem cmp_eq (a : Int) : compare a a = .eq := by rw [cmp_def, if_neg (by omega), if_pos rfl]
theorem sgn_lt {s t : Bool} {a b : Nat} (h : a < b) : compare (sgn s a) (sgn t b) = (if t then .gt else .lt) := by
  cases s <;> cases t
  · exact cmp_lt (by show (a : Int) < (b : Int); omega)
  · exact cmp_gt (by show -(b : Int) < (a : Int); omega)
  · exact cmp_lt (by show -(a : Int) < (b : Int); omega)
  · exact cmp_gt (by show -(b : Int) < -(a : Int); omega)
theorem sgn_gt {s t : Bool} {a b : Nat} (h : b < a) : compare (sgn s a) (sgn t b) = (if s then .lt else .gt) := by
  cases s <;> cases t
  · exact cmp_gt (by show (b : Int) < (a : Int); omega)
  · exact cmp_gt (by show -(b : Int) < (a : Int); omega)
  · exact cmp_lt (by show -(a : Int) < (b : Int); omega)
  · exact cmp_lt (by show -(a : Int) < -(b : Int); omega)
/-- Numbers as they are compared: brought to the lesser place. -/
theorem cmp_place (s t : Bool) (m n p q : Nat) : compare (sgn s (m * 2 ^ (-1074 + (p : Int) - min (-1074 + (p : Int)) (-1074 + (q : Int))).toNat)) (sgn t (n * 2 ^ (-1074 + (q : Int) - min (-1074 + (p : Int)) (-1074 + (q : Int))).toNat)) = compare (sgn s (m * 2 ^ p)) (sgn t (n * 2 ^ q)) := by
  rcases Nat.le_total p q with h | h
  · have e1 : (-1074 + (p : Int) - min (-1074 + (p : Int)) (-1074 + (q : Int))).toNat = 0 := by omega
    have e2 : (-1074 + (q : Int) - min (-1074 + (p : Int)) (-1074 + (q : Int))).toNat = q - p := by omega
    rw [e1, e2]
    rw [← cmp_scale (sgn s (m * 2 ^ 0)) (sgn t (n * 2 ^ (q - p))) (c := 2 ^ p) (Nat.two_pow_pos _), ← sgn_mul, ← sgn_mul, Nat.mul_assoc, Nat.mul_assoc, ← Nat.pow_add, ← Nat.pow_add, Nat.zero_add, Nat.sub_add_cancel h]
  · have e1 : (-1074 + (p : Int) - min (-1074 + (p : Int)) (-1074 + (q : Int))).toNat = p - q := by omega
    have e2 : (-1074 + (q : Int) - min (-1074 + (p : Int)) (-1074 + (q : Int))).toNat = 0 := by omega
    rw [e1, e2]
    rw [← cmp_scale (sgn s (m * 2 ^ (p - q))) (sgn t (n * 2 ^ 0)) (c := 2 ^ q) (Nat.two_pow_pos _), ← sgn_mul, ← sgn_mul, Nat.mul_assoc, Nat.mul_assoc, ← Nat.pow_add, ← Nat.pow_add, Nat.zero_add, Nat.sub_add_cancel h]

theorem ford_key (x y : Nat) : ford x y = (keyF x).bind fun a => (keyF y).map fun b => compare a b := by
  show (double.read x).order (double.read y) = _
  rcases Nat.lt_trichotomy (rungF x) infF with hx | hx | hx
  · have kx : keyF x = some (sgn (sgF x) (mgF (rungF x))) := by unfold keyF; rw [if_pos (by omega)]
    rw [read_num hx, kx]
    rcases Nat.lt_trichotomy (rungF y) infF with hy | hy | hy
    · have ky : keyF y = some (sgn (sgF y) (mgF (rungF y))) := by unfold keyF; rw [if_pos (by omega)]
      rw [read_num hy, ky]
      simp only [Datum.order, Option.bind_some, Option.map_some, Option.some.injEq]
      rw [signed_sgn, signed_sgn]
      exact cmp_place _ _ _ _ _ _
    · have ky : keyF y = some (sgn (sgF y) (mgF (rungF y))) := by unfold keyF; rw [if_pos (by omega)]
      rw [read_inf hy, ky]
      simp only [Datum.order, Option.bind_some, Option.map_some, Option.some.injEq]
      rw [sgn_lt (by rw [hy]; exact mg_lt hx)]
    · have ky : keyF y = none := by unfold keyF; rw [if_neg (by omega)]
      rw [read_nan hy, ky]
      simp [Datum.order]
  · have kx : keyF x = some (sgn (sgF x) (mgF (rungF x))) := by unfold keyF; rw [if_pos (by omega)]
    rw [read_inf hx, kx]
    rcases Nat.lt_trichotomy (rungF y) infF with hy | hy | hy
    · have ky : keyF y = some (sgn (sgF y) (mgF (rungF y))) := by unfold keyF; rw [if_pos (by omega)]
      rw [read_num hy, ky]
      simp only [Datum.order, Option.bind_some, Option.map_some, Option.some.injEq]
      rw [sgn_gt (by rw [hx]; exact mg_lt hy)]
    · have ky : keyF y = some (sgn (sgF y) (mgF (rungF y))) := by unfold keyF; rw [if_pos (by omega)]
      rw [read_inf hy, ky, hx, hy]
      simp only [Datum.order, Option.bind_some, Option.map_some, Option.some.injEq]
      have hp : (0 : Int) < (mgF infF : Int) := by
        have : mgF 0 < mgF infF := mg_lt (by decide)
        rw [mg_zero] at this
        omega
      cases sgF x <;> cases sgF y
      · exact (cmp_eq _).symm
      · exact (cmp_gt (by show -(mgF infF : Int) < (mgF infF : Int); omega)).symm
      · exact (cmp_lt (by show -(mgF infF : Int) < (mgF infF : Int); omega)).symm
      · exact (cmp_eq _).symm
    · have ky : keyF y = none := by unfold keyF; rw [if_neg (by omega)]
      rw [read_nan hy, ky]
      simp [Datum.order]
  · have kx : keyF x = none := by unfold keyF; rw [if_neg (by omega)]
    rw [read_nan hx, kx]
    simp [Datum.order]

/-! ### what follows -/

def nanF (x : Nat) : Bool := ford x x != some .eq
theorem nanF_key (x : Nat) : nanF x = (keyF x).isNone := by
  unfold nanF
  rw [ford_key]
  cases keyF x with
  | none => rfl
  | some a => simp [cmp_eq]
theorem ford_some {x y : Nat} {a b : Int} (hx : keyF x = some a) (hy : keyF y = some b) : ford x y = some (compare a b) := by rw [ford_key, hx, hy]; rfl
theorem ford_none {x y : Nat} (h : keyF x = none ∨ keyF y = none) : ford x y = none := by
  rw [ford_key]
  rcases h with h | h
  · rw [h]; rfl
  · rw [h]; cases keyF x <;> rfl
theorem key_0 : keyF 0 = some 0 := by decide
theorem cmp_iff_lt {a b : Int} : compare a b = .lt ↔ a < b := by
  rw [cmp_def]
  by_cases h : a < b
  · simp [h]
  · rw [if_neg h]
    by_cases q : a = b
    · simp [q]
    · simp [q, h]
theorem cmp_iff_eq {a b : Int} : compare a b = .eq ↔ a = b := by
  rw [cmp_def]
  by_cases h : a < b
  · simp [h]; omega
  · rw [if_neg h]
    by_cases q : a = b
    · simp [q]
    · simp [q]
theorem cmp_iff_gt {a b : Int} : compare a b = .gt ↔ b < a := by
  rw [cmp_def]
  by_cases h : a < b
  · simp [h]; omega
  · rw [if_neg h]
    by_cases q : a = b
    · simp [q]
    · simp [q]; omega
/-- The same number: the same bits, or both nought. -/
theorem key_inj {x y : Nat} (hx : x < 18446744073709551616) (hy : y < 18446744073709551616) {a : Int} (kx : keyF x = some a) (ky : keyF y = some a) (h0 : a ≠ 0) : x = y := by
  unfold keyF at kx ky
  split at kx
  · split at ky
    · have kx := Option.some.inj kx
      have ky := Option.some.inj ky
      have e : sgn (sgF x) (mgF (rungF x)) = sgn (sgF y) (mgF (rungF y)) := by rw [kx, ky]
      have hs : sgF x = sgF y ∧ mgF (rungF x) = mgF (rungF y) := by
        unfold sgn at e kx ky
        cases hsx : sgF x <;> cases hsy : sgF y <;> rw [hsx] at e kx <;> rw [hsy] at e ky <;> simp at e kx ky <;> simp <;> omega
      have hr := mg_inj hs.2
      have h1 := hs.1
      unfold sgF at h1
      unfold rungF at hr
      have a1 : x / 9223372036854775808 % 2 = y / 9223372036854775808 % 2 := by
        have b1 : x / 9223372036854775808 % 2 < 2 := Nat.mod_lt _ (by omega)
        have b2 : y / 9223372036854775808 % 2 < 2 := Nat.mod_lt _ (by omega)
        have c1 : (x / 9223372036854775808 % 2 == 1) = true ↔ x / 9223372036854775808 % 2 = 1 := by simp
        have c2 : (y / 9223372036854775808 % 2 == 1) = true ↔ y / 9223372036854775808 % 2 = 1 := by simp
        rw [h1] at c1
        have c3 := c1.symm.trans c2
        clear c1 c2 e kx ky hs
        omega
      have d1 : x / 9223372036854775808 < 2 := by omega
      have d2 : y / 9223372036854775808 < 2 := by omega
      clear e kx ky hs h0 h1
      omega
    · cases ky
  · cases kx
theorem key_zero {x : Nat} (h : keyF x = some 0) : rungF x = 0 := by
  unfold keyF at h
  split at h
  · have h := Option.some.inj h
    have : mgF (rungF x) = 0 := by
      unfold sgn at h
      split at h <;> omega
    exact mg_inj (by rw [this, mg_zero])
  · cases h
end Go.Ab
