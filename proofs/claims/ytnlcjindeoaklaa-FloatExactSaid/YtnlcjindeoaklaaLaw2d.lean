/-
  Law FloatExact: the walk.
-/
import Derived.Test.YtnlcjindeoaklaaLaw2a
import Derived.Test.YtnlcjindeoaklaaFL3
set_option linter.unusedVariables false
set_option linter.unusedSimpArgs false
set_option maxRecDepth 20000
namespace Go.Proofs.Ytnlcjindeoaklaa
open Go.Ab

theorem floor_nat {x : Nat} {a : Int} (k : keyF x = some a) : aNat Try.prog F_math_archFloor [.flt .f64 x] = some (.flt .f64 (flF x)) := by
  have e : ∃ s m i, Ieee.double.read x = .number s m i ∨ Ieee.double.read x = .infinity s := by
    unfold keyF at k
    split at k
    · rename_i h
      rcases Nat.lt_or_eq_of_le h with q | q
      · exact ⟨_, _, _, .inl (read_num q)⟩
      · exact ⟨_, 0, 0, .inr (read_inf q)⟩
    · cases k
  have hn : aNat Try.prog F_math_archFloor [.flt .f64 x] = aPureB Try.prog (Go.Extern.MathFloor.toIntegral "math.archFloor" .down) [.flt .f64 x] := by kernel_rfl
  rw [hn]
  obtain ⟨s, m, i, e⟩ := e
  have e2 : Go.Extern.MathFloor.toIntegral "math.archFloor" .down #[.float .f64 x] = pure (Value.float .f64 (flF x)) := by
    show (match FloatKind.f64.decode x with
      | .nan s t => _
      | d => pure (Value.float .f64 (FloatKind.f64.encode (d.integral .down)))) = _
    have hd : FloatKind.f64.decode x = Ieee.double.read x := rfl
    rw [hd]
    unfold flF
    rcases e with e | e <;> rw [e] <;> rfl
  have v1 : AVal.toVs [.flt .f64 x] = some [.float .f64 x] := rfl
  unfold aPureB
  rw [v1]
  show (match aPure Try.prog (Go.Extern.MathFloor.toIntegral "math.archFloor" .down #[.float .f64 x]) with
    | some r => some (ofV 0 r)
    | none => none) = _
  rw [e2]
  rfl
theorem bin_fsub {a b r : Nat} (t : TypeId) (x y : Operand) (h : Ieee.double.sub a b = some r) : aBin Try.prog .sub t x y (.flt .f64 a) (.flt .f64 b) = some (.flt .f64 r) := by
  have e : aPure Try.prog (binOp .sub t (.float .f64 a) (.float .f64 b)) = some (.float .f64 r) := by
    show aPure Try.prog (Op.floatArith .sub .f64 a b) = _
    have e2 : Op.floatArith .sub .f64 a b = (match Ieee.double.sub a b with
      | some r => pure (Value.float .f64 r)
      | none => (do pure (Value.float .f64 (← choose (.nanBits .f64 a b))))) := rfl
    rw [e2, h]
    rfl
  have g : aPure Try.prog (eqGuard .sub t x y (.float .f64 a) (.float .f64 b)) = some () := rfl
  have v1 : ∀ z : Nat, (AVal.flt .f64 z).toV = some (.float .f64 z) := fun _ => rfl
  simp only [aBin, v1, aPure_bind, g, e, Option.bind_some]
  rfl
theorem u64_wrap {n : Int} (h0 : 0 ≤ n) (h1 : n < 18446744073709551616) : IntKind.u64.wrap n = n := by
  show (if false && decide (n % 18446744073709551616 ≥ 9223372036854775808) then n % 18446744073709551616 - 18446744073709551616 else n % 18446744073709551616) = n
  simp
  omega
def infs (y : Nat) : Prop := y = 9218868437227405312 ∨ y = 18442240474082181120
theorem fin_one : Fin 1 ∧ Fin 9223372036854775809 := ⟨⟨by decide, by decide⟩, ⟨by decide, by decide⟩⟩

section
variable {X : XTab}

theorem math_Floor (hX : OnlyKnown X) {x : Nat} {a : Int} (k : keyF x = some a) (h : Heap) : Tells (fun q => acallX Try.prog X q F_math_Floor [.flt .f64 x] h) fun r h' => r = .flt .f64 (flF x) ∧ h' = h := by
  refine R_math_Floor _ (hX _ _ rfl) ?_
  unfold S_math_Floor
  simp [floor_nat k]
  exact Tells.ok ⟨rfl, rfl⟩
theorem copysign1 (hX : OnlyKnown X) {y : Nat} (hy : infs y) (h : Heap) : Tells (fun q => acallX Try.prog X q F_math_Copysign [.flt .f64 1, .flt .f64 y] h) fun r h' => (∃ z, r = .flt .f64 z ∧ Fin z) ∧ h' = h := by
  refine R_math_Copysign _ _ (hX _ _ rfl) ?_
  unfold S_math_Copysign
  have n1 := nat_bits 1
  have n2 := nat_bits y
  have e1 : ∀ t a b, aBin Try.prog .andNot t a b (.int .u64 1) (.int .u64 9223372036854775808) = some (.int .u64 1) := fun t a b => by kernel_rfl
  rcases hy with rfl | rfl
  · have e2 : ∀ t a b, aBin Try.prog .and t a b (.int .u64 9218868437227405312) (.int .u64 9223372036854775808) = some (.int .u64 0) := fun t a b => by kernel_rfl
    have e3 : ∀ t a b, aBin Try.prog .or t a b (.int .u64 1) (.int .u64 0) = some (.int .u64 1) := fun t a b => by kernel_rfl
    have n3 := nat_frombits 1
    simp at n1 n2 n3
    simp [n1, n2, e1, e2, e3, n3]
    exact Tells.ok ⟨⟨1, rfl, fin_one.1⟩, rfl⟩
  · have e2 : ∀ t a b, aBin Try.prog .and t a b (.int .u64 18442240474082181120) (.int .u64 9223372036854775808) = some (.int .u64 9223372036854775808) := fun t a b => by kernel_rfl
    have e3 : ∀ t a b, aBin Try.prog .or t a b (.int .u64 1) (.int .u64 9223372036854775808) = some (.int .u64 9223372036854775809) := fun t a b => by kernel_rfl
    have n3 := nat_frombits 9223372036854775809
    simp at n1 n2 n3
    simp [n1, n2, e1, e2, e3, n3]
    exact Tells.ok ⟨⟨9223372036854775809, rfl, fin_one.2⟩, rfl⟩

theorem nextafter (hX : OnlyKnown X) {x y : Nat} (hx : Fin x) (hr : rungF x ≤ 1087 * 4503599627370496) (hy : infs y) (h : Heap) : Tells (fun q => acallX Try.prog X q F_math_Nextafter [.flt .f64 x, .flt .f64 y] h) fun r h' => (∃ z, r = .flt .f64 z ∧ Fin z) ∧ h' = h := by
  refine R_math_Nextafter _ _ (hX _ _ rfl) ?_
  refine Tells.prot fun Q' hQ => ?_
  have u4 := Try.underlying4
  have kx := hx.key
  have ny : (keyF y).isNone = false := by rcases hy with rfl | rfl <;> decide
  unfold S_math_Nextafter
  try simp
  refine Tells.bind (IsNaN_ hX x h) ?_
  rintro _ h ⟨rfl, rfl⟩
  rw [nan_key, kx]
  simp
  refine Tells.bind (IsNaN_ hX y h) ?_
  rintro _ h ⟨rfl, rfl⟩
  rw [nan_key, ny]
  cases c1 : (ford x y == some .eq) with
  | true =>
    simp [c1, J_math_Nextafter_0]
    exact Tells.ok (hQ _ _ ⟨⟨x, rfl, hx⟩, rfl⟩)
  | false =>
    cases c2 : (ford x 0 == some .eq) with
    | true =>
      have n1 := nat_frombits 1
      simp at n1
      simp [c1, c2, n1]
      refine Tells.bind (copysign1 hX hy h) ?_
      rintro _ h ⟨⟨z, rfl, hz⟩, rfl⟩
      simp [J_math_Nextafter_0]
      exact Tells.ok (hQ _ _ ⟨⟨z, rfl, hz⟩, rfl⟩)
    | false =>
      have h0 : rungF x ≠ 0 := by
        intro q
        rw [ford_eq0, kx, q, mg_zero] at c2
        unfold sgn at c2
        simp at c2
      obtain ⟨f1, f2, f3⟩ := fin_next hx hr h0
      have w1 : IntKind.u64.wrap ((x : Int) + 1) = (x : Int) + 1 := u64_wrap (by omega) (by have := f1.lt; omega)
      have w2 : IntKind.u64.wrap ((x : Int) - 1) = (x : Int) - 1 := u64_wrap (by omega) (by have := hx.lt; omega)
      have t1 : ((x : Int) + 1).toNat = x + 1 := by omega
      have t2 : ((x : Int) - 1).toNat = x - 1 := by omega
      cases c3 : ((ford y x == some .gt) == (ford x 0 == some .gt)) with
      | true =>
        simp [c1, c2, c3, u4, nat_bits, w1, nat_frombits, t1, J_math_Nextafter_0]
        exact Tells.ok (hQ _ _ ⟨⟨x + 1, rfl, f1⟩, rfl⟩)
      | false =>
        simp [c1, c2, c3, u4, nat_bits, w2, nat_frombits, t2, J_math_Nextafter_0]
        exact Tells.ok (hQ _ _ ⟨⟨x - 1, rfl, f2⟩, rfl⟩)

theorem fe1 (hX : OnlyKnown X) (hk : X F_precentorlaw2_known [] = some (.bool true)) {t : T} {g : Heap} {n : Int} {x : Nat} (hn : In64 n) (t0 : t 0 = I n) (t5 : t 5 = .flt .f64 x) (hx : Fin x) :
    Tells (fun m => J_precentorlaw2_FloatExact_1 Try.prog (acallX Try.prog X m) m (retK Try.prog [.tmp 4]) t g) fun r _ => r = .bool true := by
  obtain ⟨p, kx⟩ : ∃ p, keyF x = some p := ⟨_, hx.key⟩
  have hE := E_posI
  have hb1 := mul_le (show -9223372036854775808 ≤ n from hn.1)
  have hb2 := mul_lt hn.2
  unfold J_precentorlaw2_FloatExact_1
  simp [t0, t5]
  refine Tells.bind (float_CmpInt hX n hn x g) ?_
  rintro _ g ⟨rfl, rfl⟩
  rw [cmpIF_some kx]
  simp
  refine Tells.bind (known_X hk g) ?_
  rintro _ g ⟨rfl, rfl⟩
  by_cases c1 : 9223372036854775808 * (E1074 : Int) ≤ p
  · have f1 : (ford x 4890909195324358656 == some .gt || ford x 4890909195324358656 == some .eq) = true := by
      rw [ford_some kx key_top]
      rcases Int.lt_or_eq_of_le c1 with q | q
      · rw [cmp_gt q]; rfl
      · rw [q, cmp_eq]; rfl
    have e : sgI (n * (E1074 : Int)) p = -1 := sgI_lt (by omega)
    simp [J_precentorlaw2_FloatExact_2, t5, f1, e]
    exact Tells.ok rfl
  have f1 : (ford x 4890909195324358656 == some .gt || ford x 4890909195324358656 == some .eq) = false := by
    rw [ford_some kx key_top, cmp_lt (by omega)]; rfl
  by_cases c2 : p < -(9223372036854775808 * (E1074 : Int))
  · have f2 : (ford x 14114281232179134464 == some .lt) = true := by
      rw [ford_some kx key_bot, cmp_lt c2]; rfl
    have e : sgI (n * (E1074 : Int)) p = 1 := sgI_gt (by omega)
    simp [J_precentorlaw2_FloatExact_2, t5, f1, J_precentorlaw2_FloatExact_3, f2, e]
    exact Tells.ok rfl
  have f2 : (ford x 14114281232179134464 == some .lt) = false := by
    rw [ford_some kx key_bot]
    rw [beq_eq_false_iff_ne]
    intro q
    exact c2 (cmp_iff_lt.1 (Option.some.inj q))
  obtain ⟨w, r1, r2, r3, r4, r5, r6, r7⟩ := floor_ kx (by omega) (by omega)
  have e1 : w * (E1074 : Int) ≤ p := by rw [r5]; exact Int.ediv_mul_le p (by omega)
  have e2 : p < (w + 1) * (E1074 : Int) := by rw [r5]; exact Int.lt_ediv_add_one_mul_self p hE
  simp [J_precentorlaw2_FloatExact_2, t5, f1, J_precentorlaw2_FloatExact_3, f2, J_precentorlaw2_FloatExact_4]
  refine Tells.bind (math_Floor hX kx g) ?_
  rintro _ g ⟨rfl, rfl⟩
  simp [conv_w r1 r2 r3, t5]
  refine Tells.bind (math_Floor hX kx g) ?_
  rintro _ g ⟨rfl, rfl⟩
  have hfl : rungF (flF x) < infF := by
    unfold keyF at r4
    split at r4
    · rename_i q
      rcases Nat.lt_or_eq_of_le q with z | z
      · exact z
      · exfalso
        have r4 := Option.some.inj r4
        rw [z] at r4
        have hbig : (9223372036854775808 * E1074 : Nat) < mgF infF := by
          have e1 : maF infF = 4503599627370496 := by decide
          have e2 : plF infF = 2046 := by decide
          unfold mgF
          obtain ⟨q, hq, hq2⟩ : ∃ q, 2046 = q + 1074 ∧ 12 ≤ q := ⟨972, rfl, by omega⟩
          rw [e1, e2, E_split hq, ← Nat.mul_assoc]
          refine Nat.mul_lt_mul_of_pos_right ?_ E_pos
          have : (2 : Nat) ^ 12 ≤ 2 ^ q := Nat.pow_le_pow_right (by omega) hq2
          have e3 : (2 : Nat) ^ 12 = 4096 := by decide
          have := Nat.mul_le_mul_left 4503599627370496 this
          omega
        have a1 := mul_le r2
        have a2 := mul_le r3
        generalize mgF infF = G at *
        unfold sgn at r4
        split at r4 <;> omega
    · cases r4
  obtain ⟨rest, ra, s1, s2, s3⟩ := rest_ kx r4 hx.fin hfl
  simp [t0, t5, bin_fsub _ _ _ s1]
  rcases Int.lt_trichotomy n w with c | c | c
  · have hlt : n * (E1074 : Int) < p := by
      have := mul_lt c
      omega
    have bw : (n == w) = false := beq_eq_false_iff_ne.2 (by omega)
    simp [show ¬ w < n by omega, bw, show ¬ n = w by omega, J_precentorlaw2_FloatExact_5, sgI_lt hlt]
    exact Tells.ok rfl
  · subst c
    have z := ford_eq0 rest
    by_cases hp : p = n * (E1074 : Int)
    · have hz : (ford rest 0 == some .eq) = true := by rw [z, s2, s3.2 hp]; rfl
      simp [hz, hp, sgI_eq]
      exact Tells.ok rfl
    · have hz : (ford rest 0 == some .eq) = false := by
        rw [z, s2, beq_eq_false_iff_ne]
        intro q
        exact hp (s3.1 (Option.some.inj q))
      have hlt : n * (E1074 : Int) < p := by omega
      simp [hz, J_precentorlaw2_FloatExact_5, sgI_lt hlt]
      exact Tells.ok rfl
  · have hgt : p < n * (E1074 : Int) := by
      have := mul_le (show w + 1 ≤ n by omega)
      omega
    simp [c, sgI_gt hgt]
    exact Tells.ok rfl

theorem floatExact_ (hX : OnlyKnown X) (hk : X F_precentorlaw2_known [] = some (.bool true)) (n : Int) (hn : In64 n) (by_ : Int) (hb : In64 by_) {h : Heap} :
    Tells (fun m => acallX Try.prog X m F_precentorlaw2_FloatExact [I n, I by_] h) fun a _ => a = .bool true := by
  refine R_precentorlaw2_FloatExact _ _ (hX _ _ rfl) ?_
  refine Tells.prot fun Q' hQ => ?_
  obtain ⟨fx, fr⟩ := fin_near n hn
  generalize hx : FloatKind.f64.nearest n = x at fx fr
  have cv : ∀ h, aConv Try.prog h 2 22 (I n) = .val (.flt .f64 x) h := fun h => by rw [← hx]; exact conv_if h n
  have j0 : ∀ {t : T} {g : Heap} {z : Nat}, t 0 = I n → t 1 = I by_ → t 5 = .flt .f64 z → Fin z → (pick by_ 3 = 2 → rungF z ≤ 1087 * 4503599627370496) → Tells (fun m => J_precentorlaw2_FloatExact_0 Try.prog (acallX Try.prog X m) m (retK Try.prog [.tmp 4]) t g) Q' := by
    intro t g z t0 t1 t5 fz hz
    unfold J_precentorlaw2_FloatExact_0
    simp [t1]
    refine Tells.bind (Pick hX by_ 3 ⟨by omega, by omega⟩ g) ?_
    rintro _ g ⟨rfl, rfl⟩
    by_cases c : pick by_ 3 = 2
    · simp [c]
      refine Tells.bind (Inf_ hX (-1) g) ?_
      rintro _ g ⟨rfl, rfl⟩
      simp [t5]
      refine Tells.bind (nextafter hX fz (hz c) (.inr rfl) g) ?_
      rintro _ g ⟨⟨u, rfl, fu⟩, rfl⟩
      try simp
      exact (fe1 hX hk (n := n) (x := u) hn (by simp [t0]) (by simp) fu).mono fun r h q => hQ _ _ q
    · have bc : (pick by_ 3 == 2) = false := beq_eq_false_iff_ne.2 c
      simp [bc]
      exact (fe1 hX hk (n := n) (x := z) hn (by simp [t0]) (by simp [t5]) fz).mono fun r h q => hQ _ _ q
  unfold S_precentorlaw2_FloatExact
  simp [cv]
  refine Tells.bind (Pick hX by_ 3 ⟨by omega, by omega⟩ h) ?_
  rintro _ h ⟨rfl, rfl⟩
  by_cases c : pick by_ 3 = 1
  · simp [c]
    refine Tells.bind (Inf_ hX 1 h) ?_
    rintro _ h ⟨rfl, rfl⟩
    simp
    refine Tells.bind (nextafter hX fx fr (.inl rfl) h) ?_
    rintro _ h ⟨⟨u, rfl, fu⟩, rfl⟩
    try simp
    exact j0 (z := u) (by simp) (by simp) (by simp) fu (fun q => by rw [c] at q; cases q)
  · have bc : (pick by_ 3 == 1) = false := beq_eq_false_iff_ne.2 c
    simp [bc]
    exact j0 (z := x) (by simp) (by simp) (by simp) fx (fun _ => fr)
end
end Go.Proofs.Ytnlcjindeoaklaa
