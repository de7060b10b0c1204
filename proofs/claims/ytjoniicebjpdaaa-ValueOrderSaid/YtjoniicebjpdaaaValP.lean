/-
  The plain law of values compared.
-/
import Derived.Test.YtjoniicebjpdaaaValD
import Derived.Test.YtjoniicebjpdaaaFlC
set_option linter.unusedVariables false
set_option linter.unusedSimpArgs false
namespace Go.Proofs.Ytjoniicebjpdaaa
open Go.Ab

theorem sgI_zero (p q : Int) : (sgI p q == 0) = (p == q) := by
  rcases Int.lt_trichotomy p q with h | h | h
  · rw [sgI_lt h]
    have : (p == q) = false := beq_eq_false_iff_ne.2 (by omega)
    rw [this]; rfl
  · subst h; rw [sgI_eq]; simp
  · rw [sgI_gt h]
    have : (p == q) = false := beq_eq_false_iff_ne.2 (by omega)
    rw [this]; rfl
theorem fl14_lt : ∀ x, x ∈ fl14 → x < 18446744073709551616 := by decide
theorem sgI_three (p q : Int) : sgI p q = -1 ∧ p < q ∨ sgI p q = 0 ∧ p = q ∨ sgI p q = 1 ∧ q < p := by
  rcases Int.lt_trichotomy p q with h | h | h
  · exact .inl ⟨sgI_lt h, h⟩
  · subst h; exact .inr (.inl ⟨sgI_eq _, rfl⟩)
  · exact .inr (.inr ⟨sgI_gt h, h⟩)
theorem cmpF_eq {a b : Nat} {p q : Int} (ka : keyF a = some p) (kb : keyF b = some q) : cmpF a b = (sgI p q, true) := by simp [cmpF, ka, kb]
theorem cmpF_none {a b : Nat} (h : keyF a = none ∨ keyF b = none) : cmpF a b = (0, false) := by
  unfold cmpF
  rcases h with h | h
  · rw [h]
  · rw [h]; cases keyF a <;> rfl
theorem cmpIF_none {n : Int} {x : Nat} (k : keyF x = none) : cmpIF n x = (0, false) := by simp [cmpIF, k]

/-- How texts stand to one another. -/
def ordB (below above : Bool) : Int := if below then -1 else if above then 1 else 0
def sgT (a b : ByteArray) : Int := ordB (Op.bytesLess a.toList b.toList) (!(Op.bytesLess a.toList b.toList || a.toList == b.toList))
def cmpV (v w : Vl) : Int × Bool :=
  if v.k = 1 ∧ w.k = 1 then (sgI v.n w.n, true)
  else if v.k = 2 ∧ w.k = 2 then cmpF v.x w.x
  else if v.k = 1 ∧ w.k = 2 then cmpIF v.n w.x
  else if v.k = 2 ∧ w.k = 1 then (-(cmpIF w.n v.x).1, (cmpIF w.n v.x).2)
  else if v.k = 3 ∧ w.k = 3 then (sgT v.s w.s, true)
  else if v.k = 4 ∧ w.k = 4 then (ordB (!v.b && w.b) (v.b && !w.b), true)
  else (0, false)
theorem sgI_in (p q : Int) : -1 ≤ sgI p q ∧ sgI p q ≤ 1 := by
  rcases sgI_three p q with ⟨e, _⟩ | ⟨e, _⟩ | ⟨e, _⟩ <;> omega
theorem cmpIF_in (n : Int) (x : Nat) : -1 ≤ (cmpIF n x).1 ∧ (cmpIF n x).1 ≤ 1 := by
  unfold cmpIF
  split
  · exact sgI_in _ _
  · simp

/-! ### values of the feed -/

def rkT (a : ByteArray) : Int := (texts6.findIdx fun b => b.toList == a.toList : Nat)
theorem sgT_rk : ∀ a, a ∈ texts6 → ∀ b, b ∈ texts6 → sgT a b = sgI (rkT a) (rkT b) := by decide +kernel
def b2i (b : Bool) : Int := if b then 1 else 0
theorem ord_bool (a b : Bool) : ordB (!a && b) (a && !b) = sgI (b2i a) (b2i b) := by cases a <;> cases b <;> decide
/-- Its kind, and where it stands in it. -/
def fk (v : Vl) : Option (Nat × Int) :=
  if v.k = 1 then some (0, v.n * (E1074 : Int)) else if v.k = 2 then (keyF v.x).map fun p => (0, p) else if v.k = 3 then some (1, rkT v.s) else some (2, b2i v.b)
theorem sgI_scale (a b : Int) : sgI (a * (E1074 : Int)) (b * (E1074 : Int)) = sgI a b := by
  have hE := E_posI
  rcases Int.lt_trichotomy a b with h | h | h
  · rw [sgI_lt h, sgI_lt (mul_lt h)]
  · subst h; rw [sgI_eq, sgI_eq]
  · rw [sgI_gt h, sgI_gt (mul_lt h)]
def cmpK (a b : Option (Nat × Int)) : Int × Bool := match a, b with
  | some (c, p), some (d, q) => if c = d then (sgI p q, true) else (0, false)
  | _, _ => (0, false)
theorem fed_k {v : Vl} (h : FedV v) : v.k = 1 ∨ v.k = 2 ∨ (v.k = 3 ∧ v.s ∈ texts6) ∨ v.k = 4 := by
  rcases h with ⟨k, _⟩ | ⟨k, _⟩ | ⟨k, _, _, s, _⟩ | ⟨k, _⟩
  · exact .inl k
  · exact .inr (.inl k)
  · exact .inr (.inr (.inl ⟨k, s⟩))
  · exact .inr (.inr (.inr k))
theorem cmpV_fed {v w : Vl} (hv : FedV v) (hw : FedV w) : cmpV v w = cmpK (fk v) (fk w) := by
  rcases fed_k hv with a | a | ⟨a, sa⟩ | a <;> rcases fed_k hw with b | b | ⟨b, sb⟩ | b
  · simp [cmpV, fk, a, b, cmpK, sgI_scale]
  · cases kb : keyF w.x with
    | none => simp [cmpV, fk, a, b, cmpK, kb, cmpIF_none kb]
    | some q => simp [cmpV, fk, a, b, cmpK, kb, cmpIF_some kb]
  · simp [cmpV, fk, a, b, cmpK]
  · simp [cmpV, fk, a, b, cmpK]
  · cases ka : keyF v.x with
    | none => simp [cmpV, fk, a, b, cmpK, ka, cmpIF_none ka]
    | some q => simp [cmpV, fk, a, b, cmpK, ka, cmpIF_some ka, sgI_neg (w.n * (E1074 : Int)) q]
  · cases ka : keyF v.x with
    | none => simp [cmpV, fk, a, b, cmpK, ka, cmpF_none (a := v.x) (b := w.x) (.inl ka)]
    | some p =>
      cases kb : keyF w.x with
      | none => simp [cmpV, fk, a, b, cmpK, ka, kb, cmpF_none (a := v.x) (b := w.x) (.inr kb)]
      | some q => simp [cmpV, fk, a, b, cmpK, ka, kb, cmpF_eq ka kb]
  · cases ka : keyF v.x <;> simp [cmpV, fk, a, b, cmpK, ka]
  · cases ka : keyF v.x <;> simp [cmpV, fk, a, b, cmpK, ka]
  · simp [cmpV, fk, a, b, cmpK]
  · cases kb : keyF w.x <;> simp [cmpV, fk, a, b, cmpK, kb]
  · simp [cmpV, fk, a, b, cmpK, sgT_rk _ sa _ sb]
  · simp [cmpV, fk, a, b, cmpK]
  · simp [cmpV, fk, a, b, cmpK]
  · cases kb : keyF w.x <;> simp [cmpV, fk, a, b, cmpK, kb]
  · simp [cmpV, fk, a, b, cmpK]
  · simp [cmpV, fk, a, b, cmpK, ord_bool]

theorem cmpK_in (a b : Option (Nat × Int)) : -1 ≤ (cmpK a b).1 ∧ (cmpK a b).1 ≤ 1 := by
  unfold cmpK
  split
  · split
    · exact sgI_in _ _
    · simp
  · simp
theorem cmpK_swap (a b : Option (Nat × Int)) : cmpK b a = (-(cmpK a b).1, (cmpK a b).2) := by
  rcases a with _ | ⟨c, p⟩ <;> rcases b with _ | ⟨d, q⟩ <;> simp [cmpK]
  by_cases h : c = d
  · simp [h, sgI_neg p q]
  · simp [h, Ne.symm h]
/-- Three of them. -/
theorem cmpK_three (a b c : Option (Nat × Int)) (h1 : (cmpK a b).2 = true) (h2 : (cmpK b c).2 = true) : (cmpK a c).2 = true ∧ ((cmpK a b).1 ≤ 0 → (cmpK b c).1 ≤ 0 → (cmpK a c).1 = min (cmpK a b).1 (cmpK b c).1) ∧ (0 ≤ (cmpK a b).1 → 0 ≤ (cmpK b c).1 → (cmpK a c).1 = max (cmpK a b).1 (cmpK b c).1) := by
  rcases a with _ | ⟨i, p⟩
  · simp [cmpK] at h1
  rcases b with _ | ⟨j, q⟩
  · simp [cmpK] at h1
  rcases c with _ | ⟨k, r⟩
  · simp [cmpK] at h2
  simp only [cmpK] at h1 h2 ⊢
  by_cases e1 : i = j
  · by_cases e2 : j = k
    · subst e1; subst e2
      simp only [if_true, true_and]
      rcases sgI_three p q with ⟨e, c1⟩ | ⟨e, c1⟩ | ⟨e, c1⟩ <;> rcases sgI_three q r with ⟨e', c2⟩ | ⟨e', c2⟩ | ⟨e', c2⟩ <;> rcases sgI_three p r with ⟨e3, c3⟩ | ⟨e3, c3⟩ | ⟨e3, c3⟩ <;> rw [e, e', e3] <;> omega
    · rw [if_neg e2] at h2; simp at h2
  · rw [if_neg e1] at h1; simp at h1

/-! ### what is the same -/

theorem sameV_comm (v w : Vl) : sameV v w = sameV w v := by
  unfold sameV
  rw [BEq.comm (a := v.k), BEq.comm (a := v.n), BEq.comm (a := v.s.toList), BEq.comm (a := v.b), BEq.comm (a := bitsF v.x)]
theorem fed_lt {v : Vl} (h : FedV v) : v.x < 18446744073709551616 := by
  rcases h with ⟨_, x, _⟩ | ⟨_, _, x, _⟩ | ⟨_, _, x, _⟩ | ⟨_, _, x, _⟩
  · rw [x]; decide
  · exact fl14_lt _ x
  · rw [x]; decide
  · rw [x]; decide
theorem same_key {v w : Vl} (hv : FedV v) (hw : FedV w) (h : sameV v w = true) : fk v = fk w := by
  simp only [sameV, Bool.and_eq_true, beq_iff_eq] at h
  obtain ⟨⟨⟨⟨h1, h2⟩, h3⟩, h4⟩, h5⟩ := h
  have hk : keyF v.x = keyF w.x := by
    have := bits_same (fed_lt hv) (fed_lt hw)
    rw [h5] at this
    simp only [beq_self_eq_true] at this
    unfold sameK at this
    cases ka : keyF v.x <;> cases kb : keyF w.x <;> rw [ka, kb] at this <;> simp at this
    rw [this]
  have hs : rkT v.s = rkT w.s := by unfold rkT; rw [h3]
  unfold fk
  rw [h1, h2, hk, hs, h4]
theorem texts6_size : ∀ s, s ∈ texts6 → s.size ≤ 12 := by decide +kernel
theorem fed_right {v : Vl} (h : FedV v) : rightV v = true := by
  have x00 : (ford 0 0 == some .eq) = true := by decide +kernel
  rcases h with ⟨k, x, s, b, _⟩ | ⟨k, n, x, s, b⟩ | ⟨k, n, x, s, b⟩ | ⟨k, n, x, s⟩
  · simp [rightV, x0B, s0B, k, x, s, b, x00]
  · simp [rightV, x0B, s0B, k, n, s, b]
  · simp [rightV, x0B, s0B, k, n, x, b, x00, texts6_size _ s]
  · simp [rightV, x0B, s0B, k, n, x, s, x00]
theorem fed_in {v : Vl} (h : FedV v) : In64 v.n := by
  rcases h with ⟨_, _, _, _, n⟩ | ⟨_, n, _⟩ | ⟨_, n, _⟩ | ⟨_, n, _⟩
  · exact n
  · rw [n]; exact ⟨by decide, by decide⟩
  · rw [n]; exact ⟨by decide, by decide⟩
  · rw [n]; exact ⟨by decide, by decide⟩
/-- Can it be compared with itself? -/
theorem fk_self {v : Vl} (h : FedV v) : (fk v).isSome = (!(v.k == 2) || (ford v.x v.x == some .eq)) := by
  rcases fed_k h with a | a | ⟨a, _⟩ | a
  · simp [fk, a]
  · cases ka : keyF v.x with
    | none => simp [fk, a, ka, ford_none (x := v.x) (y := v.x) (.inl ka)]
    | some p => simp [fk, a, ka, ford_some ka ka, cmp_eq]
  · simp [fk, a]
  · simp [fk, a]
end Go.Proofs.Ytjoniicebjpdaaa
