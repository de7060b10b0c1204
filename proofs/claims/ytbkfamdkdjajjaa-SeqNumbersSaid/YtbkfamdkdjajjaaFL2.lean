/-
  The plain law of floats' bits and order.
-/
import Derived.Test.YtbkfamdkdjajjaaFL1
import Derived.Test.YtbkfamdkdjajjaaBitsF
set_option linter.unusedVariables false
set_option linter.unusedSimpArgs false
namespace Go.Proofs.Ytbkfamdkdjajjaa
open Go.Ab

def sgI (a b : Int) : Int := if a < b then -1 else if b < a then 1 else 0
theorem sgI_neg (a b : Int) : sgI b a = -sgI a b := by
  unfold sgI
  by_cases h1 : a < b <;> by_cases h2 : b < a <;> simp [h1, h2] <;> omega
def cmpF (a b : Nat) : Int × Bool := match keyF a, keyF b with
  | some p, some q => (sgI p q, true)
  | _, _ => (0, false)
def cmpIF (n : Int) (x : Nat) : Int × Bool := match keyF x with
  | some p => (sgI (n * (E1074 : Int)) p, true)
  | none => (0, false)

theorem nan_key (x : Nat) : (ford x x != some .eq) = (keyF x).isNone := nanF_key x
theorem ford_eq0 (x : Nat) : (ford x 0 == some .eq) = (keyF x == some 0) := by
  cases h : keyF x with
  | none => rw [ford_none (.inl h)]; rfl
  | some a =>
    rw [ford_some h key_0]
    rw [Bool.eq_iff_iff]
    simp [cmp_iff_eq]
theorem key_can : keyF 9221120237041090560 = none := by decide
theorem bitsF_none {x : Nat} (h : keyF x = none) : bitsF x = 9221120237041090560 := by
  unfold bitsF
  rw [nan_key, h]; rfl
theorem bitsF_zero {x : Nat} (h : keyF x = some 0) : bitsF x = 0 := by
  unfold bitsF
  rw [nan_key, ford_eq0, h]; rfl
theorem bitsF_num {x : Nat} {a : Int} (h : keyF x = some a) (h0 : a ≠ 0) : bitsF x = x := by
  unfold bitsF
  rw [nan_key, ford_eq0, h]
  simp [h0]
def sameK (a b : Nat) : Bool := match keyF a, keyF b with
  | some p, some q => p == q
  | none, none => true
  | _, _ => false
theorem bits_same {a b : Nat} (ha : a < 18446744073709551616) (hb : b < 18446744073709551616) : (bitsF a == bitsF b) = sameK a b := by
  unfold sameK
  cases ka : keyF a with
  | none =>
    cases kb : keyF b with
    | none => rw [bitsF_none ka, bitsF_none kb]; rfl
    | some q =>
      by_cases hq : q = 0
      · subst hq; rw [bitsF_none ka, bitsF_zero kb]; rfl
      · rw [bitsF_none ka, bitsF_num kb hq]
        simp only [beq_eq_false_iff_ne]
        intro e
        have : b = 9221120237041090560 := by omega
        rw [this, key_can] at kb
        cases kb
  | some p =>
    cases kb : keyF b with
    | none =>
      by_cases hp : p = 0
      · subst hp; rw [bitsF_none kb, bitsF_zero ka]; rfl
      · rw [bitsF_none kb, bitsF_num ka hp]
        simp only [beq_eq_false_iff_ne]
        intro e
        have : a = 9221120237041090560 := by omega
        rw [this, key_can] at ka
        cases ka
    | some q =>
      show _ = (p == q)
      by_cases hp : p = 0
      · subst hp
        rw [bitsF_zero ka]
        by_cases hq : q = 0
        · subst hq; rw [bitsF_zero kb]
        · rw [bitsF_num kb hq]
          have hb0 : b ≠ 0 := fun e => by rw [e, key_0] at kb; exact hq (Option.some.inj kb).symm
          have e1 : ((0 : Int) == (b : Int)) = false := beq_eq_false_iff_ne.2 (by omega)
          have e2 : ((0 : Int) == q) = false := beq_eq_false_iff_ne.2 (Ne.symm hq)
          rw [e1, e2]
      · rw [bitsF_num ka hp]
        by_cases hq : q = 0
        · subst hq
          rw [bitsF_zero kb]
          have ha0 : a ≠ 0 := fun e => by rw [e, key_0] at ka; exact hp (Option.some.inj ka).symm
          have e1 : ((a : Int) == (0 : Int)) = false := beq_eq_false_iff_ne.2 (by omega)
          have e2 : (p == (0 : Int)) = false := beq_eq_false_iff_ne.2 hp
          rw [e1, e2]
        · rw [bitsF_num kb hq]
          by_cases e : a = b
          · subst e
            rw [ka] at kb
            cases kb
            simp
          · have e1 : ((a : Int) == (b : Int)) = false := beq_eq_false_iff_ne.2 (by omega)
            have e2 : (p == q) = false := beq_eq_false_iff_ne.2 fun h => e (key_inj ha hb ka (by rw [← h] at kb; exact kb) hp)
            rw [e1, e2]

theorem bitsF_lt {x : Nat} (h : x < 18446744073709551616) : ∃ y : Nat, bitsF x = y ∧ y < 18446744073709551616 ∧ keyF y = keyF x ∧ (y = 9221120237041090560 ∨ y = 0 ∨ y = x) := by
  cases k : keyF x with
  | none => exact ⟨_, bitsF_none k, by decide, key_can, .inl rfl⟩
  | some a =>
    by_cases h0 : a = 0
    · subst h0; exact ⟨0, bitsF_zero k, by decide, key_0, .inr (.inl rfl)⟩
    · exact ⟨x, bitsF_num k h0, h, k, .inr (.inr rfl)⟩
/-- Bits of bits. -/
theorem bitsF_bits {x y : Nat} (h : bitsF x = y) (hk : keyF y = keyF x) (hy : y = 9221120237041090560 ∨ y = 0 ∨ y = x) : bitsF y = y := by
  cases k : keyF x with
  | none => rw [bitsF_none (by rw [hk, k]), ← h, bitsF_none k]
  | some a =>
    by_cases h0 : a = 0
    · subst h0; rw [bitsF_zero (by rw [hk, k]), ← h, bitsF_zero k]
    · rw [bitsF_num (by rw [hk, k]) h0]
end Go.Proofs.Ytbkfamdkdjajjaa
