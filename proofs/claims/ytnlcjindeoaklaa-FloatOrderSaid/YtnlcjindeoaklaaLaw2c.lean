/-
  Law FloatOrder: the walk.
-/
import Derived.Test.YtnlcjindeoaklaaLaw2b
set_option linter.unusedVariables false
set_option linter.unusedSimpArgs false
set_option maxRecDepth 20000
namespace Go.Proofs.Ytnlcjindeoaklaa
open Go.Ab

theorem cmpF_eq {a b : Nat} {p q : Int} (ka : keyF a = some p) (kb : keyF b = some q) : cmpF a b = (sgI p q, true) := by simp [cmpF, ka, kb]
theorem cmpF_none {a b : Nat} (h : keyF a = none ∨ keyF b = none) : cmpF a b = (0, false) := by
  unfold cmpF
  rcases h with h | h
  · rw [h]
  · rw [h]; cases keyF a <;> rfl
theorem cmpIF_none {n : Int} {x : Nat} (k : keyF x = none) : cmpIF n x = (0, false) := by simp [cmpIF, k]
theorem self_some {a : Nat} {p : Int} (ka : keyF a = some p) : ford a a = some .eq := by rw [ford_some ka ka, cmp_eq]
theorem self_none {a : Nat} (ka : keyF a = none) : ford a a = none := ford_none (.inl ka)
theorem sgI_three (p q : Int) : sgI p q = -1 ∧ p < q ∨ sgI p q = 0 ∧ p = q ∨ sgI p q = 1 ∧ q < p := by
  rcases Int.lt_trichotomy p q with h | h | h
  · exact .inl ⟨sgI_lt h, h⟩
  · subst h; exact .inr (.inl ⟨sgI_eq _, rfl⟩)
  · exact .inr (.inr ⟨sgI_gt h, h⟩)

section
variable {X : XTab}

theorem fo1 (hX : OnlyKnown X) {t : T} {g : Heap} {a b : Nat} {n : Int} (hn : In64 n) (t1 : t 1 = I n) (t6 : t 6 = .flt .f64 a) (t7 : t 7 = .flt .f64 b) (t9 : t 9 = I (cmpF a b).1) (t10 : t 10 = .bool (cmpF a b).2) :
    Tells (fun m => J_precentorlaw2_FloatOrder_1 Try.prog (acallX Try.prog X m) m (retK Try.prog [.tmp 4]) t g) fun r _ => r = .bool true := by
  have u4 := Try.underlying4
  unfold J_precentorlaw2_FloatOrder_1
  try simp [t1, t6]
  refine Tells.bind (float_CmpInt hX n hn a g) ?_
  rintro _ g ⟨rfl, rfl⟩
  try simp [t1, t7]
  refine Tells.bind (float_CmpInt hX n hn b g) ?_
  rintro _ g ⟨rfl, rfl⟩
  cases ka : keyF a with
  | none =>
    rw [cmpF_none (.inl ka)] at t9 t10
    have fa := self_none ka
    cases kb : keyF b with
    | none =>
      have fb := self_none kb
      simp [cmpIF_none ka, cmpIF_none kb, t6, t7, fa, fb, t9, t10, u4]
      exact Tells.ok rfl
    | some q =>
      have fb := self_some kb
      simp [cmpIF_none ka, cmpIF_some kb, t6, t7, fa, fb, t9, t10, u4]
      exact Tells.ok rfl
  | some p =>
    have fa := self_some ka
    cases kb : keyF b with
    | none =>
      rw [cmpF_none (.inr kb)] at t9 t10
      have fb := self_none kb
      simp [cmpIF_some ka, cmpIF_none kb, t6, t7, fa, fb, t9, t10, u4]
      exact Tells.ok rfl
    | some q =>
      rw [cmpF_eq ka kb] at t9 t10
      have fb := self_some kb
      simp only at t9 t10
      generalize hw : n * (E1074 : Int) = w at *
      rcases sgI_three p q with ⟨e, c⟩ | ⟨e, c⟩ | ⟨e, c⟩
      · rw [e] at t9
        have hle : sgI w q ≤ sgI w p := by
          rcases sgI_three w p with ⟨e1, c1⟩ | ⟨e1, c1⟩ | ⟨e1, c1⟩ <;> rcases sgI_three w q with ⟨e2, c2⟩ | ⟨e2, c2⟩ | ⟨e2, c2⟩ <;> omega
        simp [cmpIF_some ka, cmpIF_some kb, hw, t6, t7, fa, fb, t9, t10, u4, hle]
        exact Tells.ok rfl
      · subst c
        rw [e] at t9
        simp [cmpIF_some ka, cmpIF_some kb, hw, t6, t7, fa, fb, t9, t10, u4]
        exact Tells.ok rfl
      · rw [e] at t9
        simp [cmpIF_some ka, cmpIF_some kb, hw, t6, t7, fa, fb, t9, t10, u4]
        exact Tells.ok rfl

theorem fo0 (hX : OnlyKnown X) {t : T} {g : Heap} {a b c : Nat} {n : Int} (hn : In64 n) (t1 : t 1 = I n) (t6 : t 6 = .flt .f64 a) (t7 : t 7 = .flt .f64 b) (t9 : t 9 = I (cmpF a b).1) (t10 : t 10 = .bool (cmpF a b).2)
    (t13 : t 13 = I (cmpF b c).1) (t14 : t 14 = .bool (cmpF b c).2) (t15 : t 15 = I (cmpF a c).1) :
    Tells (fun m => J_precentorlaw2_FloatOrder_0 Try.prog (acallX Try.prog X m) m (retK Try.prog [.tmp 4]) t g) fun r _ => r = .bool true := by
  have fin : ∀ t' : T, t' 1 = t 1 → t' 6 = t 6 → t' 7 = t 7 → t' 9 = t 9 → t' 10 = t 10 → Tells (fun m => J_precentorlaw2_FloatOrder_1 Try.prog (acallX Try.prog X m) m (retK Try.prog [.tmp 4]) t' g) fun r _ => r = .bool true :=
    fun t' e1 e6 e7 e9 e10 => fo1 hX hn (by rw [e1, t1]) (by rw [e6, t6]) (by rw [e7, t7]) (by rw [e9, t9]) (by rw [e10, t10])
  unfold J_precentorlaw2_FloatOrder_0
  cases ka : keyF a with
  | none =>
    have c0 := cmpF_none (a := a) (b := b) (.inl ka)
    rw [c0] at t9 t10
    simp [t10]
    exact fin _ (by simp) (by simp) (by simp) (by simp) (by simp [t10])
  | some p =>
    cases kb : keyF b with
    | none =>
      have c0 := cmpF_none (a := a) (b := b) (.inr kb)
      rw [c0] at t9 t10
      simp [t10]
      exact fin _ (by simp) (by simp) (by simp) (by simp) (by simp [t10])
    | some q =>
      cases kc : keyF c with
      | none =>
        have c1 := cmpF_none (a := b) (b := c) (.inr kc)
        rw [cmpF_eq ka kb] at t9 t10
        rw [c1] at t13 t14
        simp [t10, t14]
        exact fin _ (by simp) (by simp) (by simp) (by simp) (by simp [t10])
      | some r =>
        rw [cmpF_eq ka kb] at t9 t10
        rw [cmpF_eq kb kc] at t13 t14
        rw [cmpF_eq ka kc] at t15
        simp only at t9 t10 t13 t14 t15
        rcases sgI_three p q with ⟨e, h1⟩ | ⟨e, h1⟩ | ⟨e, h1⟩ <;> rcases sgI_three q r with ⟨e', h2⟩ | ⟨e', h2⟩ | ⟨e', h2⟩ <;> rw [e] at t9 <;> rw [e'] at t13
        · have : sgI p r = -1 := sgI_lt (by omega)
          rw [this] at t15
          simp [t10, t14, t9, t13, t15]
          exact fin _ (by simp) (by simp) (by simp) (by simp [t9]) (by simp [t10])
        · have : sgI p r = -1 := sgI_lt (by omega)
          rw [this] at t15
          simp [t10, t14, t9, t13, t15]
          exact fin _ (by simp) (by simp) (by simp) (by simp [t9]) (by simp [t10])
        · simp [t10, t14, t9, t13, t15]
          exact fin _ (by simp) (by simp) (by simp) (by simp [t9]) (by simp [t10])
        · have : sgI p r = -1 := sgI_lt (by omega)
          rw [this] at t15
          simp [t10, t14, t9, t13, t15]
          exact fin _ (by simp) (by simp) (by simp) (by simp [t9]) (by simp [t10])
        · have : sgI p r = 0 := by rw [h1, h2, sgI_eq]
          rw [this] at t15
          simp [t10, t14, t9, t13, t15]
          exact fin _ (by simp) (by simp) (by simp) (by simp [t9]) (by simp [t10])
        · simp [t10, t14, t9, t13, t15]
          exact fin _ (by simp) (by simp) (by simp) (by simp [t9]) (by simp [t10])
        · simp [t10, t14, t9, t13, t15]
          exact fin _ (by simp) (by simp) (by simp) (by simp [t9]) (by simp [t10])
        · simp [t10, t14, t9, t13, t15]
          exact fin _ (by simp) (by simp) (by simp) (by simp [t9]) (by simp [t10])
        · simp [t10, t14, t9, t13, t15]
          exact fin _ (by simp) (by simp) (by simp) (by simp [t9]) (by simp [t10])

theorem cmpF_in (a b : Nat) : -1 ≤ (cmpF a b).1 ∧ (cmpF a b).1 ≤ 1 := by
  unfold cmpF
  split
  · rename_i p q _ _
    rcases sgI_three p q with ⟨e, _⟩ | ⟨e, _⟩ | ⟨e, _⟩ <;> simp [e]
  · simp
theorem cmpF_swap (a b : Nat) : cmpF b a = (-(cmpF a b).1, (cmpF a b).2) := by
  cases ka : keyF a with
  | none => rw [cmpF_none (.inl ka), cmpF_none (.inr ka)]; rfl
  | some p =>
    cases kb : keyF b with
    | none => rw [cmpF_none (.inl kb), cmpF_none (.inr kb)]; rfl
    | some q => rw [cmpF_eq ka kb, cmpF_eq kb ka, sgI_neg]
theorem cmpF_ok (a b : Nat) : (cmpF a b).2 = ((ford a a == some .eq) && (ford b b == some .eq)) := by
  cases ka : keyF a with
  | none => rw [cmpF_none (.inl ka), self_none ka]; rfl
  | some p =>
    cases kb : keyF b with
    | none => rw [cmpF_none (.inr kb), self_none kb, self_some ka]; rfl
    | some q => rw [cmpF_eq ka kb, self_some ka, self_some kb]; rfl

theorem un_neg (z : Int) : aUn Try.prog .neg (.int .i64 z) = some (I (IntKind.i64.wrap (0 - z))) := by kernel_rfl

theorem floatOrder_ (hX : OnlyKnown X) (hk : X F_precentorlaw2_known [] = some (.bool true)) {h : Heap} {v : AVal} {xs : List Int} (r : RawInts h v xs) (n : Int) (hn : In64 n) :
    Tells (fun m => acallX Try.prog X m F_precentorlaw2_FloatOrder [v, I n] h) fun a _ => a = .bool true := by
  refine R_precentorlaw2_FloatOrder _ _ (hX _ _ rfl) ?_
  refine Tells.prot fun Q' hQ => ?_
  have u4 := Try.underlying4
  unfold S_precentorlaw2_FloatOrder
  simp [bldR, fillR, splice, r.sl.known, r.sl.cells]
  refine Tells.box rfl rfl fun h1 bf f1 x1 l1 => ?_
  have fd1 : Feed h1 bf 0 := ⟨_, 0, xs, f1, by omega, by omega, (r.ext x1).sl, r.small, (r.ext x1).old⟩
  try simp
  refine Tells.bind (FloatH hX fd1 (by omega)) ?_
  rintro _ h2 ⟨a, rfl, ha, x2, f2⟩
  try simp
  refine Tells.bind (FloatH hX f2 (by omega)) ?_
  rintro _ h3 ⟨b, rfl, hb, x3, f3⟩
  try simp
  refine Tells.bind (FloatH hX f3 (by omega)) ?_
  rintro _ h4 ⟨c, rfl, hc, x4, f4⟩
  try simp
  refine Tells.bind (float_Cmp hX a b h4) ?_
  rintro _ h4 ⟨rfl, rfl⟩
  try simp
  refine Tells.bind (float_Cmp hX b a h4) ?_
  rintro _ h4 ⟨rfl, rfl⟩
  try simp
  refine Tells.bind (float_Cmp hX b c h4) ?_
  rintro _ h4 ⟨rfl, rfl⟩
  try simp
  refine Tells.bind (float_Cmp hX a c h4) ?_
  rintro _ h4 ⟨rfl, rfl⟩
  try simp
  refine Tells.bind (known_X hk h4) ?_
  rintro _ h4 ⟨rfl, rfl⟩
  have w : IntKind.i64.wrap (cmpF a b).1 = (cmpF a b).1 := by
    have := cmpF_in a b
    exact wrap_id (by omega) (by omega)
  have o1 := cmpF_ok a b
  have o2 := cmpF_ok b c
  have o3 := cmpF_ok a c
  have fin : ∀ t' : T, t' 1 = I n → t' 6 = .flt .f64 a → t' 7 = .flt .f64 b → t' 9 = I (cmpF a b).1 → t' 10 = .bool (cmpF a b).2 → t' 13 = I (cmpF b c).1 → t' 14 = .bool (cmpF b c).2 → t' 15 = I (cmpF a c).1 →
      Tells (fun m => J_precentorlaw2_FloatOrder_0 Try.prog (acallX Try.prog X m) m (retK Try.prog [.tmp 4]) t' h4) Q' :=
    fun t' e1 e6 e7 e9 e10 e13 e14 e15 => (fo0 hX hn e1 e6 e7 e9 e10 e13 e14 e15).mono fun r h q => hQ _ _ q
  rw [cmpF_swap a b]
  cases fa : (ford a a == some .eq) <;> cases fb : (ford b b == some .eq) <;> cases fc : (ford c c == some .eq) <;> rw [fa, fb] at o1 <;> rw [fb, fc] at o2 <;> rw [fa, fc] at o3 <;> simp [un_neg, w, o1, o2, o3, fa, fb, fc, u4] <;>
    exact fin _ (by simp) (by simp) (by simp) (by simp) (by simp [o1]) (by simp) (by simp [o2]) (by simp)
end
end Go.Proofs.Ytnlcjindeoaklaa
