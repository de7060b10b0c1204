/-
  Law FloatBits: the walk.
-/
import Derived.Test.YtnlcjindeoaklaaLaw2a
set_option linter.unusedVariables false
set_option linter.unusedSimpArgs false
set_option maxRecDepth 20000
namespace Go.Proofs.Ytnlcjindeoaklaa
open Go.Ab

theorem sgI_zero (p q : Int) : (sgI p q == 0) = (p == q) := by
  rcases Int.lt_trichotomy p q with h | h | h
  · rw [sgI_lt h]
    have : (p == q) = false := beq_eq_false_iff_ne.2 (by omega)
    rw [this]; rfl
  · subst h; rw [sgI_eq]; simp
  · rw [sgI_gt h]
    have : (p == q) = false := beq_eq_false_iff_ne.2 (by omega)
    rw [this]; rfl
theorem fl14_lt : ∀ x, x ∈ fl14 → x < 18446744073709551616 := by decide
theorem sameK_comm (a b : Nat) : sameK a b = sameK b a := by
  unfold sameK
  cases keyF a <;> cases keyF b <;> first | rfl | exact BEq.comm
theorem sameK_self (a : Nat) : sameK a a = true := by
  unfold sameK
  cases keyF a <;> simp

section
variable {X : XTab}

theorem fb1 (hX : OnlyKnown X) {t : T} {g : Heap} {a b : Nat} (t0 : t 0 = .flt .f64 a) (t1 : t 1 = .flt .f64 b) (ha : a < 18446744073709551616) (hb : b < 18446744073709551616) :
    Tells (fun m => J_precentorlaw2_FloatBits_1 Try.prog (acallX Try.prog X m) m (retK Try.prog [.tmp 6]) t g) fun r _ => r = .bool true := by
  have u4 := Try.underlying4
  unfold J_precentorlaw2_FloatBits_1
  try simp [t0, t1]
  refine Tells.bind (float_Cmp hX a b g) ?_
  rintro _ g ⟨rfl, rfl⟩
  have nk := nan_key a
  have nk2 := nan_key b
  have e1 := bits_same ha hb
  have e2 := bits_same hb ha
  rw [sameK_comm] at e2
  have e3 : (bitsF a == bitsF a) = true := by simp
  cases ka : keyF a with
  | none =>
    cases kb : keyF b with
    | none =>
      have c : cmpF a b = (0, false) := by simp [cmpF, ka]
      have s : sameK a b = true := by simp [sameK, ka, kb]
      rw [ka] at nk; rw [kb] at nk2
      have nk : (ford a a != some .eq) = true := nk
      have nk2 : (ford b b != some .eq) = true := nk2
      rw [s] at e1 e2
      simp [c, t0, t1, nk, nk2]
      refine Tells.bind (float_Same hX a b g) ?_
      rintro _ g ⟨rfl, rfl⟩
      rw [e1]
      simp [t0, t1, u4]
      refine Tells.bind (float_Same hX b a g) ?_
      rintro _ g ⟨rfl, rfl⟩
      rw [e2]
      simp [t0, t1, u4]
      refine Tells.bind (float_Same hX a a g) ?_
      rintro _ g ⟨rfl, rfl⟩
      simp
      exact Tells.ok rfl
    | some q =>
      have c : cmpF a b = (0, false) := by simp [cmpF, ka]
      have s : sameK a b = false := by simp [sameK, ka, kb]
      rw [ka] at nk; rw [kb] at nk2
      have nk : (ford a a != some .eq) = true := nk
      have nk2 : (ford b b != some .eq) = false := nk2
      rw [s] at e1 e2
      simp [c, t0, t1, nk, nk2]
      refine Tells.bind (float_Same hX a b g) ?_
      rintro _ g ⟨rfl, rfl⟩
      rw [e1]
      simp [t0, t1, u4]
      refine Tells.bind (float_Same hX b a g) ?_
      rintro _ g ⟨rfl, rfl⟩
      rw [e2]
      simp [t0, t1, u4]
      refine Tells.bind (float_Same hX a a g) ?_
      rintro _ g ⟨rfl, rfl⟩
      simp
      exact Tells.ok rfl
  | some p =>
    have nk : (ford a a != some .eq) = false := by rw [nk, ka]; rfl
    cases kb : keyF b with
    | none =>
      have c : cmpF a b = (0, false) := by simp [cmpF, ka, kb]
      have s : sameK a b = false := by simp [sameK, ka, kb]
      rw [s] at e1 e2
      simp [c, t0, t1, nk]
      refine Tells.bind (float_Same hX a b g) ?_
      rintro _ g ⟨rfl, rfl⟩
      rw [e1]
      simp [t0, t1, u4]
      refine Tells.bind (float_Same hX b a g) ?_
      rintro _ g ⟨rfl, rfl⟩
      rw [e2]
      simp [t0, t1, u4]
      refine Tells.bind (float_Same hX a a g) ?_
      rintro _ g ⟨rfl, rfl⟩
      simp
      exact Tells.ok rfl
    | some q =>
      have c : cmpF a b = (sgI p q, true) := by simp [cmpF, ka, kb]
      have s : sameK a b = (p == q) := by simp [sameK, ka, kb]
      have z := sgI_zero p q
      rw [s] at e1 e2
      cases hpq : (p == q) with
      | true =>
        rw [hpq] at e1 e2 z
        simp [c, t0, t1, nk, z]
        refine Tells.bind (float_Same hX a b g) ?_
        rintro _ g ⟨rfl, rfl⟩
        rw [e1]
        simp [t0, t1, u4]
        refine Tells.bind (float_Same hX b a g) ?_
        rintro _ g ⟨rfl, rfl⟩
        rw [e2]
        simp [t0, t1, u4]
        refine Tells.bind (float_Same hX a a g) ?_
        rintro _ g ⟨rfl, rfl⟩
        simp
        exact Tells.ok rfl
      | false =>
        rw [hpq] at e1 e2 z
        simp [c, t0, t1, nk, z]
        refine Tells.bind (float_Same hX a b g) ?_
        rintro _ g ⟨rfl, rfl⟩
        rw [e1]
        simp [t0, t1, u4]
        refine Tells.bind (float_Same hX b a g) ?_
        rintro _ g ⟨rfl, rfl⟩
        rw [e2]
        simp [t0, t1, u4]
        refine Tells.bind (float_Same hX a a g) ?_
        rintro _ g ⟨rfl, rfl⟩
        simp
        exact Tells.ok rfl

theorem signbit0 (hX : OnlyKnown X) (h : Heap) : Tells (fun q => acallX Try.prog X q F_math_Signbit [.flt .f64 0] h) fun r h' => r = .bool false ∧ h' = h := by
  refine R_math_Signbit _ (hX _ _ rfl) ?_
  unfold S_math_Signbit
  have c0 : aConv Try.prog h 31 2 (.int .u64 0) = .val (I 0) h := by kernel_rfl
  have nb := nat_bits 0
  simp at nb
  simp [nb, c0]
  exact Tells.ok ⟨rfl, rfl⟩

theorem fb0 (hX : OnlyKnown X) (hk : X F_precentorlaw2_known [] = some (.bool true)) {t : T} {g : Heap} {a b : Nat} (t0 : t 0 = .flt .f64 a) (t1 : t 1 = .flt .f64 b) (ha : a < 18446744073709551616) (hb : b < 18446744073709551616) :
    Tells (fun m => J_precentorlaw2_FloatBits_0 Try.prog (acallX Try.prog X m) m (retK Try.prog [.tmp 6]) t g) fun r _ => r = .bool true := by
  have u4 := Try.underlying4
  obtain ⟨y, y1, y2, y3, y4⟩ := bitsF_lt ha
  have y5 := bitsF_bits y1 y3 y4
  have hof : ofF y = (y, true) := by simp [ofF, y5]
  unfold J_precentorlaw2_FloatBits_0
  try simp [t0]
  refine Tells.bind (float_Bits hX a g) ?_
  rintro _ g ⟨rfl, rfl⟩
  rw [y1]
  try simp
  refine Tells.bind (float_Of hX y g) ?_
  rintro _ g ⟨rfl, rfl⟩
  simp [hof]
  refine Tells.bind (known_X hk g) ?_
  rintro _ g ⟨rfl, rfl⟩
  try simp
  refine Tells.bind (float_Bits hX y g) ?_
  rintro _ g ⟨rfl, rfl⟩
  rw [y5]
  try simp [t0]
  refine Tells.bind (float_Bits hX a g) ?_
  rintro _ g ⟨rfl, rfl⟩
  try rw [y1]
  have ny := nan_key y
  have na := nan_key a
  rw [y3] at ny
  have z0 := ford_eq0 y
  rw [y3] at z0
  have fin : ∀ t' : T, t' 0 = t 0 → t' 1 = t 1 → Tells (fun m => J_precentorlaw2_FloatBits_1 Try.prog (acallX Try.prog X m) m (retK Try.prog [.tmp 6]) t' g) fun r _ => r = .bool true :=
    fun t' e0 e1 => fb1 hX (by rw [e0, t0]) (by rw [e1, t1]) ha hb
  cases ka : keyF a with
  | none =>
    rw [ka] at ny na z0
    have ny : ford y y = none := ford_none (.inl (by rw [y3, ka]))
    have na : ford a a = none := ford_none (.inl ka)
    have z0 : ford y 0 = none := ford_none (.inl (by rw [y3, ka]))
    simp [t0, ny, na, z0, u4]
    exact fin _ (by simp) (by simp)
  | some p =>
    have ky : keyF y = some p := by rw [y3, ka]
    have fy : ford y y = some .eq := by rw [ford_some ky ky, cmp_eq]
    have fa : ford a a = some .eq := by rw [ford_some ka ka, cmp_eq]
    have fya : ford y a = some .eq := by rw [ford_some ky ka, cmp_eq]
    by_cases hp : p = 0
    · subst hp
      have hy0 : y = 0 := by
        have := bitsF_zero ka
        rw [y1] at this
        omega
      subst hy0
      have f00 : ford 0 0 = some .eq := fy
      simp [t0, fya, fa, f00, u4]
      refine Tells.bind (signbit0 hX g) ?_
      rintro _ g ⟨rfl, rfl⟩
      simp
      exact fb1 hX (a := a) (b := b) (by simp [t0]) (by simp [t1]) ha hb
    · have z0 : (ford y 0 == some .eq) = false := by
        rw [z0, ka]
        simp [hp]
      simp [t0, fy, fa, fya, z0, u4]
      exact fin _ (by simp) (by simp)

theorem floatBits_ (hX : OnlyKnown X) (hk : X F_precentorlaw2_known [] = some (.bool true)) (a : Nat) (ha : a < 18446744073709551616) (b : Nat) (hb : b < 18446744073709551616) {h : Heap} {v : AVal} {xs : List Int} (r : RawInts h v xs) :
    Tells (fun m => acallX Try.prog X m F_precentorlaw2_FloatBits [.flt .f64 a, .flt .f64 b, v] h) fun a _ => a = .bool true := by
  refine R_precentorlaw2_FloatBits _ _ _ (hX _ _ rfl) ?_
  refine Tells.prot fun Q' hQ => ?_
  unfold S_precentorlaw2_FloatBits
  simp [bldR, fillR, splice, r.sl.known, r.sl.cells]
  refine Tells.box rfl rfl fun h1 bf f1 x1 l1 => ?_
  have fd1 : Feed h1 bf 0 := ⟨_, 0, xs, f1, by omega, by omega, (r.ext x1).sl, r.small, (r.ext x1).old⟩
  try simp
  refine Tells.bind (Next hX 2 ⟨by omega, by omega⟩ fd1 (by omega)) ?_
  rintro _ h2 ⟨c, rfl, c0, c1, _, x2, f2⟩
  by_cases hc : c = 1
  · subst hc
    simp
    refine Tells.bind (FloatH hX f2 (by omega)) ?_
    rintro _ h3 ⟨y, rfl, hy, x3, f3⟩
    try simp
    refine Tells.bind (FloatH hX f3 (by omega)) ?_
    rintro _ h4 ⟨z, rfl, hz, x4, f4⟩
    try simp
    exact (fb0 hX hk (a := y) (b := z) (by simp) (by simp) (fl14_lt y hy) (fl14_lt z hz)).mono fun r h q => hQ _ _ q
  · have bc : (c == 1) = false := beq_eq_false_iff_ne.2 hc
    simp [bc]
    exact (fb0 hX hk (a := a) (b := b) (by simp) (by simp) ha hb).mono fun r h q => hQ _ _ q
end
end Go.Proofs.Ytnlcjindeoaklaa
