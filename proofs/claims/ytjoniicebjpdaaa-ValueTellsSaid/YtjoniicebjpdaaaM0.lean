/-
  Texts of a claim, merged: HandP, Hand0, HandF, HandW, EqW, ValD, FlB, FlC, ValP, ValC, ValO, Known0, Law3a, RdV, Law3b.
-/
import Derived.MapKept
import Derived.WideShapes
import Derived.Laws.Closers25b
import Derived.WalkKit
import Derived.Test.YtjoniicebjpdaaaB1
import Derived.Test.YtjoniicebjpdaaaSprecentorhand
import Derived.Test.YtjoniicebjpdaaaB3
import Derived.Test.YtjoniicebjpdaaaCell0
import Derived.Test.YtjoniicebjpdaaaSmath
import Derived.Test.YtjoniicebjpdaaaEq2
import Derived.Test.YtjoniicebjpdaaaOps
import Derived.Test.YtjoniicebjpdaaaBitsF
import Derived.Test.YtjoniicebjpdaaaSfloat
import Derived.Test.YtjoniicebjpdaaaSprecentorref1
import Derived.Test.YtjoniicebjpdaaaFL2
import Derived.Test.YtjoniicebjpdaaaSvalue
import Derived.Test.YtjoniicebjpdaaaB2
import Derived.Test.YtjoniicebjpdaaaSIds
import Derived.Test.YtjoniicebjpdaaaRow0
import Derived.Test.YtjoniicebjpdaaaArg0
import Derived.Test.YtjoniicebjpdaaaSprecentorlaw3
import Derived.Test.YtjoniicebjpdaaaABProg
set_option linter.unusedVariables false
set_option linter.unusedSimpArgs false
/-! What precentorhand's Pick tells. -/
namespace Go.Proofs.Ytjoniicebjpdaaa
open Go.Ab

section
variable {X : XTab}

def pick (n m : Int) : Int := if m < 1 then 0 else if n.tmod m < 0 then n.tmod m + m else n.tmod m

theorem pick_lo (n m : Int) : 0 ≤ pick n m := by
  unfold pick
  split
  · omega
  · split
    · have := Int.lt_tmod_of_pos n (show 0 < m by omega); omega
    · omega
theorem pick_hi (n m : Int) (h : 1 ≤ m) : pick n m < m := by
  unfold pick
  have := Int.tmod_lt_of_pos n (show 0 < m by omega)
  split
  · omega
  · split <;> omega

theorem Pick (hX : OnlyKnown X) (n m : Int) (hm : In64 m) (h : Heap) : Tells (fun q => acallX Try.prog X q F_precentorhand_Pick [I n, I m] h) fun v h' => v = I (pick n m) ∧ h' = h := by
  refine R_precentorhand_Pick _ _ (hX _ _ rfl) ?_
  unfold S_precentorhand_Pick
  simp
  by_cases h1 : m < 1
  · simp [h1]
    exact Tells.ok ⟨by simp [pick, h1], rfl⟩
  · simp [h1, J_precentorhand_Pick_0, aBin_rem _ _ _ _ _ _ _ (show m ≠ 0 by omega)]
    by_cases h2 : n.tmod m < 0
    · simp [h2, J_precentorhand_Pick_1]
      refine Tells.ok ⟨?_, rfl⟩
      have := Int.lt_tmod_of_pos n (show 0 < m by omega)
      rw [wrap_id (by omega) (by have := hm.2; omega)]
      simp [pick, h1, h2]
    · simp [h2, J_precentorhand_Pick_1]
      exact Tells.ok ⟨by simp [pick, h1, h2], rfl⟩

end
end Go.Proofs.Ytjoniicebjpdaaa

/-! What precentorhand's Next tells. -/
namespace Go.Proofs.Ytjoniicebjpdaaa
open Go.Ab

/-- A feed of raw numbers, asked k times at most. -/
def Feed (h : Heap) (bf k : Nat) : Prop := ∃ L at_ xs, Ob h bf [L, I at_] ∧ 0 ≤ at_ ∧ at_ ≤ (k : Int) ∧ Sl intR h L xs ∧ xs.length < 2 ^ 63 ∧ ∀ c, c ∈ L.blks → c < h.n0
theorem Feed.ext {S : List Nat} {h h' : Heap} {bf k : Nat} (f : Feed h bf k) (e : Ext S h h') (hb : bf ∉ S) : Feed h' bf k := by
  obtain ⟨L, a, xs, h1, h2, h3, h4, h5, h6⟩ := f
  exact ⟨L, a, xs, h1.ext e hb, h2, h3, h4.ext e, h5, by rw [e.n0]; exact h6⟩
theorem Feed.e {h h' : Heap} {bf k : Nat} (f : Feed h bf k) (e : Ext [] h h') : Feed h' bf k := f.ext e (by simp)
theorem Feed.mono {h : Heap} {bf k k' : Nat} (f : Feed h bf k) (hk : k ≤ k') : Feed h bf k' := by
  obtain ⟨L, a, xs, h1, h2, h3, h4⟩ := f
  exact ⟨L, a, xs, h1, h2, by omega, h4⟩
theorem Feed.lt {h : Heap} {bf k : Nat} (f : Feed h bf k) : bf < h.next := by obtain ⟨L, a, xs, h1, _⟩ := f; exact h1.lt
theorem Feed.m {h : Heap} {bf k : Nat} (f : Feed h bf k) : h.isM bf = true := by obtain ⟨L, a, xs, h1, _⟩ := f; exact h1.2.1

section
variable {X : XTab}

theorem Next (hX : OnlyKnown X) (n : Int) (hn : In64 n) {h : Heap} {bf k : Nat} (f : Feed h bf k) (hk : k < 2 ^ 62) :
    Tells (fun q => acallX Try.prog X q F_precentorhand_Feed_Next [.ptr bf 0, I n] h) fun v h' => ∃ r, v = I r ∧ 0 ≤ r ∧ (1 ≤ n → r < n) ∧ (n < 1 → r = 0) ∧ Ext [bf] h h' ∧ Feed h' bf (k + 1) := by
  refine R_precentorhand_Feed_Next _ _ (hX _ _ rfl) ?_
  unfold S_precentorhand_Feed_Next
  obtain ⟨L, a, xs, h1, h2, h3, h4, h5, h6⟩ := f
  have hlen := h4.len
  by_cases hz : xs.length = 0
  · simp [h1.1, hlen, hz]
    exact Tells.ok ⟨0, rfl, by omega, fun _ => by omega, fun _ => rfl, .refl, ⟨L, a, xs, h1, h2, by omega, h4, h5, h6⟩⟩
  · have hl : (xs.length : Int) ≠ 0 := by omega
    have hl2 : ((xs.length : Int) == 0) = false := beq_eq_false_iff_ne.2 hl
    have m0 : 0 ≤ a.tmod xs.length := Int.tmod_nonneg _ h2
    have m1 : a.tmod xs.length < xs.length := Int.tmod_lt_of_pos _ (by omega)
    obtain ⟨x, hx⟩ : ∃ x, xs[(a.tmod xs.length).toNat]? = some x := ⟨_, List.getElem?_eq_getElem (by omega)⟩
    obtain ⟨b, p, B, c, q1, q2, q3⟩ := h4.at (n := 1) rfl m0 hx
    have d0 : 0 ≤ a.tdiv xs.length := Int.tdiv_nonneg h2 (by omega)
    have d1 : a.tdiv xs.length ≤ a := Int.tdiv_le_self _ h2
    have w1 : IntKind.i64.wrap (a.tdiv xs.length) = a.tdiv xs.length := wrap_id (by omega) (by omega)
    have w2 : IntKind.i64.wrap (1 + a.tdiv xs.length) = 1 + a.tdiv xs.length := wrap_id (by omega) (by omega)
    have w3 : IntKind.i64.wrap (a + 1) = a + 1 := wrap_id (by omega) (by omega)
    have q4 := q2.ld0 (x := I x) (by rw [q3]; rfl)
    obtain ⟨h', s1, s2, s3⟩ := h1.st (off := 1) (n := 1) (v := I (a + 1)) rfl rfl (by simp)
    simp only [ld1_ptr, cell_eq] at q4
    simp [h1.1, hlen, hl2, J_precentorhand_Feed_Next_0, aBin_rem _ _ _ _ _ _ _ hl, aBin_quo _ _ _ _ _ _ _ hl, q1, q4, w1, w2, aBin_quo _ _ _ _ _ _ _ (show 1 + a.tdiv xs.length ≠ 0 by omega), w3, s1]
    refine Tells.bind (Pick hX _ n hn _) ?_
    rintro v h' ⟨rfl, rfl⟩
    exact Tells.ok ⟨_, rfl, pick_lo _ _, pick_hi _ _, fun q => by simp [pick, q], s3, ⟨L, a + 1, xs, by simpa [splice] using s2, by omega, by omega, h4.ext s3, h5, by rw [s3.n0]; exact h6⟩⟩

end
end Go.Proofs.Ytjoniicebjpdaaa

/-! What precentorhand's Float tells. -/
namespace Go.Proofs.Ytjoniicebjpdaaa
open Go.Ab

section
variable {X : XTab}

theorem nat_bits (b : Nat) : aNat Try.prog F_math_Float64bits [.flt .f64 b] = some (.int .u64 b) := by kernel_rfl

theorem nat_frombits (n : Int) : aNat Try.prog F_math_Float64frombits [.int .u64 n] = some (.flt .f64 n.toNat) := by kernel_rfl

def fl14 : List Nat := [0, 9223372036854775808, 4607182418800017408, 4609434218613702656, 4611686018427387904, 4613937818241073152, 13830554455654793216, 4591870180066957722, 9221120237041090561, 9218868437227405312, 18442240474082181120, 4845873199050653696, 4890909195324358656, 1]

theorem Copysign0 (hX : OnlyKnown X) (h : Heap) : Tells (fun q => acallX Try.prog X q F_math_Copysign [.flt .f64 0, .flt .f64 13830554455654793216] h) fun r h' => r = .flt .f64 9223372036854775808 ∧ h' = h := by
  refine R_math_Copysign _ _ (hX _ _ rfl) ?_
  unfold S_math_Copysign
  have e1 : ∀ t x y, aBin Try.prog .andNot t x y (.int .u64 0) (.int .u64 9223372036854775808) = some (.int .u64 0) := fun t x y => by kernel_rfl
  have e2 : ∀ t x y, aBin Try.prog .and t x y (.int .u64 13830554455654793216) (.int .u64 9223372036854775808) = some (.int .u64 9223372036854775808) := fun t x y => by kernel_rfl
  have e3 : ∀ t x y, aBin Try.prog .or t x y (.int .u64 0) (.int .u64 9223372036854775808) = some (.int .u64 9223372036854775808) := fun t x y => by kernel_rfl
  have n1 := nat_bits 0
  have n2 := nat_bits 13830554455654793216
  have n3 := nat_frombits 9223372036854775808
  simp at n1 n2 n3
  simp [n1, n2, e1, e2, e3, n3]
  exact Tells.ok ⟨rfl, rfl⟩

theorem NaN_ (hX : OnlyKnown X) (h : Heap) : Tells (fun q => acallX Try.prog X q F_math_NaN [] h) fun r h' => r = .flt .f64 9221120237041090561 ∧ h' = h := by
  refine R_math_NaN (hX _ _ rfl) ?_
  unfold S_math_NaN
  have n3 := nat_frombits 9221120237041090561
  simp at n3
  simp [n3]
  exact Tells.ok ⟨rfl, rfl⟩

theorem Inf_ (hX : OnlyKnown X) (s : Int) (h : Heap) : Tells (fun q => acallX Try.prog X q F_math_Inf [I s] h) fun r h' => r = .flt .f64 (if 0 ≤ s then 9218868437227405312 else 18442240474082181120) ∧ h' = h := by
  refine R_math_Inf _ (hX _ _ rfl) ?_
  unfold S_math_Inf
  have n3 := nat_frombits 9218868437227405312
  have n4 := nat_frombits 18442240474082181120
  simp at n3 n4
  by_cases q : 0 ≤ s
  · simp [q, J_math_Inf_0, n3]
    exact Tells.ok ⟨rfl, rfl⟩
  · simp [q, J_math_Inf_0, n4]
    exact Tells.ok ⟨rfl, rfl⟩

theorem FloatH (hX : OnlyKnown X) {h : Heap} {bf k : Nat} (f : Feed h bf k) (hk : k < 2 ^ 62) :
    Tells (fun q => acallX Try.prog X q F_precentorhand_Feed_Float [.ptr bf 0] h) fun r h' => ∃ x, r = .flt .f64 x ∧ x ∈ fl14 ∧ Ext [bf] h h' ∧ Feed h' bf (k + 1) := by
  refine R_precentorhand_Feed_Float _ (hX _ _ rfl) ?_
  refine Tells.prot fun Q' hQ => ?_
  unfold S_precentorhand_Feed_Float
  try simp
  refine Tells.bind (Copysign0 hX h) ?_
  rintro _ h ⟨rfl, rfl⟩
  try simp
  refine Tells.bind (NaN_ hX h) ?_
  rintro _ h ⟨rfl, rfl⟩
  try simp
  refine Tells.bind (Inf_ hX 1 h) ?_
  rintro _ h ⟨rfl, rfl⟩
  try simp
  refine Tells.bind (Inf_ hX (-1) h) ?_
  rintro _ h ⟨rfl, rfl⟩
  simp [bldR, fillR, splice]
  refine Tells.newSt (ds := fl14.map fun x => .flt .f64 x) (by rfl) (by rfl) (by rfl) (by rfl) fun h1 bl o1 x1 l1 => ?_
  try simp
  refine Tells.bind (Next hX 14 ⟨by decide, by decide⟩ (f.e x1) hk) ?_
  rintro _ h2 ⟨r, rfl, r0, r1, _, x2, f2⟩
  have r1 := r1 (by decide)
  obtain ⟨n, rfl⟩ : ∃ n : Nat, r = n := ⟨r.toNat, by omega⟩
  have hn : n < 14 := by omega
  have hp := ixp_at (len := 14) (z := 1) (b := bl) (o := 0) hn
  rw [Nat.mul_one] at hp
  have o2 := o1.ext x2 (by have := f.lt; simp; omega)
  obtain ⟨x, hx⟩ : ∃ x, fl14[n]? = some x := ⟨_, List.getElem?_eq_getElem (by simpa [fl14] using hn)⟩
  have hx2 : (fl14.map fun x => AVal.flt .f64 x)[n]? = some (.flt .f64 x) := by rw [List.getElem?_map, hx]; rfl
  rw [Nat.zero_add] at hp
  simp only [hp, of_some, arb_val, ld1_ptr, cell_eq, o2.1, hx2, lt_eq, retK_ret, resK_tmp, resK_nil, upd_same, one_one, bind_ok']
  exact Tells.ok (hQ _ _ ⟨x, rfl, List.mem_of_getElem? hx, x1.of.then x2 fun z hz => .inl hz, f2⟩)

end
end Go.Proofs.Ytjoniicebjpdaaa

/-! What precentorhand's Value tells. -/
namespace Go.Proofs.Ytjoniicebjpdaaa
open Go.Ab

section
variable {X : XTab}

/-- A value: its kind, whole number, float's bits, text, bool. -/
structure Vl where
  k : Int
  n : Int
  x : Nat
  s : ByteArray
  b : Bool

def vlC (v : Vl) : List AVal := [I v.k, I v.n, .flt .f64 v.x, .str v.s, .bool v.b]

def texts6 : List ByteArray := [bs [], bs [97], bs [97, 98], bs [98], bs [98, 97], bs [116, 119, 101, 108, 118, 101, 32, 98, 121, 116, 101, 115]]

def ints6 : List Int := [-9223372036854775808, 9223372036854775807, 9007199254740992, 9007199254740993, -1, 4611686018427387904]

/-- A value that the feed tells. -/
def FedV (v : Vl) : Prop := (v.k = 1 ∧ v.x = 0 ∧ v.s = bs [] ∧ v.b = false ∧ In64 v.n) ∨ (v.k = 2 ∧ v.n = 0 ∧ v.x ∈ fl14 ∧ v.s = bs [] ∧ v.b = false) ∨
  (v.k = 3 ∧ v.n = 0 ∧ v.x = 0 ∧ v.s ∈ texts6 ∧ v.b = false) ∨ (v.k = 4 ∧ v.n = 0 ∧ v.x = 0 ∧ v.s = bs [])

theorem ValueH (hX : OnlyKnown X) {h : Heap} {bf k : Nat} (f : Feed h bf k) (hk : k < 2 ^ 61) :
    Tells (fun q => acallX Try.prog X q F_precentorhand_Feed_Value [.ptr bf 0] h) fun r h' => ∃ v, r = .agg (vlC v) ∧ FedV v ∧ Ext [bf] h h' ∧ Feed h' bf (k + 2) := by
  refine R_precentorhand_Feed_Value _ (hX _ _ rfl) ?_
  refine Tells.prot fun Q' hQ => ?_
  unfold S_precentorhand_Feed_Value
  try simp
  refine Tells.new fun h1 bv o1 x1 l1 => ?_
  have hne : bf ≠ bv := by have := f.lt; omega
  try simp
  refine Tells.bind (Next hX 8 ⟨by decide, by decide⟩ (f.e x1) (by omega)) ?_
  rintro _ h2 ⟨r, rfl, r0, r1, _, x2, f2⟩
  have o2 := o1.ext x2 (by simpa using hne.symm)
  have x02 : Ext [bf] h h2 := x1.of.then x2 fun z hz => .inl hz
  -- the end of each way
  have fin : ∀ (g : Heap) (v : Vl) (K : Nat), K ≤ k + 2 → FedV v → Ob g bv (vlC v) → Ext [bf] h g → Feed g bf K → Q' (.agg (vlC v)) g := fun g v K hK hv o x f => hQ _ _ ⟨v, rfl, hv, x, f.mono hK⟩
  have xs : ∀ {g g' : Heap}, Ext [bf] h g → Ext [bv] g g' → Ext [bf] h g' := fun a b => a.then b fun z hz => .inr (by simp at hz; omega)
  have one : ∀ (ty : Nat), (∀ h a, aLoad Try.prog h ty a = ldn 5 h a) → ∀ (t : T) (q : Bool), t 0 = .ptr bf 0 → t 2 = .ptr bv 0 → t 6 = I r → t 7 = .bool q → Tells (fun m => J_precentorhand_Feed_Value_1 Try.prog (acallX Try.prog X m) m (blkK 0 (sqK (J_precentorhand_Feed_Value_0 Try.prog (acallX Try.prog X m) m (retK Try.prog [.cell 2 ty])) (retK Try.prog [.cell 2 ty]))) t h2) Q' := by
    intro ty hty t q t0 t2 t6 t7
    unfold J_precentorhand_Feed_Value_1
    cases q with
    | true =>
      simp [t7, t0]
      refine Tells.bind (FloatH hX f2 (by omega)) ?_
      rintro _ h3 ⟨x, rfl, hx, x3, f3⟩
      have o3 := o2.ext x3 (by simpa using hne.symm)
      simp [bldR, fillR, splice, t2]
      refine Tells.stN o3 (ds := vlC ⟨2, 0, x, bs [], false⟩) (by rfl) (by rfl) (by rfl) (by rfl) fun h4 o4 x4 => ?_
      simp [t2, hty, o4.1]
      exact Tells.ok (fin h4 ⟨2, 0, x, bs [], false⟩ (k + 2) (Nat.le_refl _) (.inr (.inl ⟨rfl, rfl, hx, rfl, rfl⟩)) o4 (xs (x02.trans x3) x4) (f3.ext x4 (by simpa using hne)))
    | false =>
      by_cases c2 : r = 2
      · simp [t7, t6, c2, bldR, fillR, splice]
        refine Tells.newSt (ds := texts6.map AVal.str) (by rfl) (by rfl) (by rfl) (by rfl) fun h3 bl o3 x3 l3 => ?_
        have f3 := f2.e x3
        simp [t0]
        refine Tells.bind (Next hX 6 ⟨by decide, by decide⟩ f3 (by omega)) ?_
        rintro _ h4 ⟨u, rfl, u0, u1, _, x4, f4⟩
        have u1 := u1 (by decide)
        obtain ⟨n, rfl⟩ : ∃ n : Nat, u = n := ⟨u.toNat, by omega⟩
        have hn : n < 6 := by omega
        have hp := ixp_at (len := 6) (z := 1) (b := bl) (o := 0) hn
        rw [Nat.mul_one, Nat.zero_add] at hp
        have o4 := o3.ext x4 (by have := f2.lt; simp; omega)
        have v4 := (o2.e x3).ext x4 (by simpa using hne.symm)
        obtain ⟨s, hs⟩ : ∃ s, texts6[n]? = some s := ⟨_, List.getElem?_eq_getElem (by simpa [texts6] using hn)⟩
        have hs2 : (texts6.map AVal.str)[n]? = some (.str s) := by rw [List.getElem?_map, hs]; rfl
        simp only [hp, of_some, arb_val, ld1_ptr, cell_eq, o4.1, hs2, lt_eq]
        simp [t2]
        refine Tells.stN v4 (ds := vlC ⟨3, 0, 0, s, false⟩) (by rfl) (by rfl) (by rfl) (by rfl) fun h5 o5 x5 => ?_
        simp [t2, hty, o5.1]
        exact Tells.ok (fin h5 ⟨3, 0, 0, s, false⟩ (k + 2) (Nat.le_refl _) (.inr (.inr (.inl ⟨rfl, rfl, rfl, List.mem_of_getElem? hs, rfl⟩))) o5 (xs ((x02.quiet x3).trans x4) x5) (f4.ext x5 (by simpa using hne)))
      · have e2 : (r == 2) = false := beq_eq_false_iff_ne.2 c2
        by_cases c3 : r = 3
        · simp [t7, t6, c3, t0]
          refine Tells.bind (Next hX 2 ⟨by decide, by decide⟩ f2 (by omega)) ?_
          rintro _ h3 ⟨u, rfl, _, _, _, x3, f3⟩
          have o3 := o2.ext x3 (by simpa using hne.symm)
          simp [bldR, fillR, splice, t2]
          refine Tells.stN o3 (ds := vlC ⟨4, 0, 0, bs [], u == 1⟩) (by rfl) (by rfl) (by rfl) (by rfl) fun h4 o4 x4 => ?_
          simp [t2, hty, o4.1]
          exact Tells.ok (fin h4 ⟨4, 0, 0, bs [], u == 1⟩ (k + 2) (Nat.le_refl _) (.inr (.inr (.inr ⟨rfl, rfl, rfl, rfl⟩))) o4 (xs (x02.trans x3) x4) (f3.ext x4 (by simpa using hne)))
        · have e3 : (r == 3) = false := beq_eq_false_iff_ne.2 c3
          by_cases c4 : r = 4
          · simp [t7, t6, c4, bldR, fillR, splice]
            refine Tells.newSt (ds := ints6.map I) (by rfl) (by rfl) (by rfl) (by rfl) fun h3 bl o3 x3 l3 => ?_
            have f3 := f2.e x3
            simp [t0]
            refine Tells.bind (Next hX 6 ⟨by decide, by decide⟩ f3 (by omega)) ?_
            rintro _ h4 ⟨u, rfl, u0, u1, _, x4, f4⟩
            have u1 := u1 (by decide)
            obtain ⟨n, rfl⟩ : ∃ n : Nat, u = n := ⟨u.toNat, by omega⟩
            have hn : n < 6 := by omega
            have hp := ixp_at (len := 6) (z := 1) (b := bl) (o := 0) hn
            rw [Nat.mul_one, Nat.zero_add] at hp
            have o4 := o3.ext x4 (by have := f2.lt; simp; omega)
            have v4 := (o2.e x3).ext x4 (by simpa using hne.symm)
            obtain ⟨s, hs⟩ : ∃ s, ints6[n]? = some s := ⟨_, List.getElem?_eq_getElem (by simpa [ints6] using hn)⟩
            have hs2 : (ints6.map I)[n]? = some (I s) := by rw [List.getElem?_map, hs]; rfl
            have hin : In64 s := by
              have : s ∈ ints6 := List.mem_of_getElem? hs
              simp [ints6] at this
              unfold In64
              omega
            simp only [hp, of_some, arb_val, ld1_ptr, cell_eq, o4.1, hs2, lt_eq]
            simp [t2]
            refine Tells.stN v4 (ds := vlC ⟨1, s, 0, bs [], false⟩) (by rfl) (by rfl) (by rfl) (by rfl) fun h5 o5 x5 => ?_
            simp [t2, hty, o5.1]
            exact Tells.ok (fin h5 ⟨1, s, 0, bs [], false⟩ (k + 2) (Nat.le_refl _) (.inl ⟨rfl, rfl, rfl, rfl, hin⟩) o5 (xs ((x02.quiet x3).trans x4) x5) (f4.ext x5 (by simpa using hne)))
          · have e4 : (r == 4) = false := beq_eq_false_iff_ne.2 c4
            simp [t7, t6, e2, e3, e4, J_precentorhand_Feed_Value_0, t0]
            refine Tells.bind (Next hX 5 ⟨by decide, by decide⟩ f2 (by omega)) ?_
            rintro _ h3 ⟨u, rfl, u0, u1, _, x3, f3⟩
            have u1 := u1 (by decide)
            have o3 := o2.ext x3 (by simpa using hne.symm)
            simp [bldR, fillR, splice, t2]
            refine Tells.stN o3 (ds := vlC ⟨1, u, 0, bs [], false⟩) (by rfl) (by rfl) (by rfl) (by rfl) fun h4 o4 x4 => ?_
            simp [t2, hty, o4.1]
            have hu : In64 u := ⟨by omega, by omega⟩
            exact Tells.ok (fin h4 ⟨1, u, 0, bs [], false⟩ (k + 2) (Nat.le_refl _) (.inl ⟨rfl, rfl, rfl, rfl, hu⟩) o4 (xs (x02.trans x3) x4) (f3.ext x4 (by simpa using hne)))
  by_cases c0 : r = 0
  · subst c0
    try simp
    exact one _ C_precentorhand_Feed_Value_0 _ _ (by simp) (by simp) (by simp) (by simp; rfl)
  · have e0 : (r == 0) = false := beq_eq_false_iff_ne.2 c0
    simp [e0]
    exact one _ C_precentorhand_Feed_Value_0 _ (r == 1) (by simp) (by simp) (by simp) (by simp)

end
end Go.Proofs.Ytjoniicebjpdaaa

/-! Values compared as structs. -/
namespace Go.Proofs.Ytjoniicebjpdaaa
open Go Go.Ab

theorem aPure_eqFlt {P : Program} {t : TypeId} {k : FloatKind} (h : P.underlying t = some (.float k)) (d : Nat) (a b : Nat) : aPure P (Op.equalIn (d + 1) t (.float k a) (.float k b)) = some (Op.floatEq k a b) := by
  simp only [Op.equalIn, aPure_bind, aPure_und h, Option.bind_some]
  simp [aPure_pure]
theorem aPure_eqStr {P : Program} {t : TypeId} (h : P.underlying t = some .string) (d : Nat) (a b : ByteArray) : aPure P (Op.equalIn (d + 1) t (.string a) (.string b)) = some (a == b) := by
  simp only [Op.equalIn, aPure_bind, aPure_und h, Option.bind_some]
  simp [aPure_pure]
theorem aPure_eqBool {P : Program} {t : TypeId} (h : P.underlying t = some .bool) (d : Nat) (a b : Bool) : aPure P (Op.equalIn (d + 1) t (.bool a) (.bool b)) = some (a == b) := by
  simp only [Op.equalIn, aPure_bind, aPure_und h, Option.bind_some]
  simp [aPure_pure]
theorem aPure_partF {P : Program} {t : TypeId} {k : FloatKind} (h : P.underlying t = some (.float k)) {cs : Array Value} {off : Nat} {v : Value} (hv : cs[off]? = some v) : aPure P (part t cs off) = some v := by
  simp only [part, isAgg, aPure_bind, aPure_und h, Option.bind_some]
  simp [aPure_pure, hv]
theorem aPure_partS {P : Program} {t : TypeId} (h : P.underlying t = some .string) {cs : Array Value} {off : Nat} {v : Value} (hv : cs[off]? = some v) : aPure P (part t cs off) = some v := by
  simp only [part, isAgg, aPure_bind, aPure_und h, Option.bind_some]
  simp [aPure_pure, hv]
theorem aPure_partB {P : Program} {t : TypeId} (h : P.underlying t = some .bool) {cs : Array Value} {off : Nat} {v : Value} (hv : cs[off]? = some v) : aPure P (part t cs off) = some v := by
  simp only [part, isAgg, aPure_bind, aPure_und h, Option.bind_some]
  simp [aPure_pure, hv]
def vlV (v : Vl) : Value := .agg #[.int .i64 v.k, .int .i64 v.n, .float .f64 v.x, .string v.s, .bool v.b]
def eqVl (v w : Vl) : Bool := v.k == w.k && (v.n == w.n && (Op.floatEq .f64 v.x w.x && (v.s == w.s && v.b == w.b)))
theorem aPure_eq5 {P : Program} {t t0 t1 t2 t3 t4 : TypeId} {f0 f1 f2 f3 f4 : Field} (hu : P.underlying t = some (.struct #[f0, f1, f2, f3, f4])) (e0 : f0.name ≠ "_" ∧ f0.type = t0 ∧ f0.offset = 0) (e1 : f1.name ≠ "_" ∧ f1.type = t1 ∧ f1.offset = 1) (e2 : f2.name ≠ "_" ∧ f2.type = t2 ∧ f2.offset = 2)
    (e3 : f3.name ≠ "_" ∧ f3.type = t3 ∧ f3.offset = 3) (e4 : f4.name ≠ "_" ∧ f4.type = t4 ∧ f4.offset = 4) (u0 : P.underlying t0 = some (.int .i64)) (u1 : P.underlying t1 = some (.int .i64)) (u2 : P.underlying t2 = some (.float .f64)) (u3 : P.underlying t3 = some .string) (u4 : P.underlying t4 = some .bool)
    (hs : P.stoodInHeld t = false) (d : Nat) (v w : Vl) : aPure P (Op.equalIn (d + 2) t (vlV v) (vlV w)) = some (eqVl v w) := by
  obtain ⟨n0, y0, o0⟩ := e0
  obtain ⟨n1, y1, o1⟩ := e1
  obtain ⟨n2, y2, o2⟩ := e2
  obtain ⟨n3, y3, o3⟩ := e3
  obtain ⟨n4, y4, o4⟩ := e4
  unfold vlV
  rw [Op.equalIn]
  simp only [aPure_bind, aPure_und hu, aPure_prog, Option.bind_some, hs]
  have p0 : ∀ x : Vl, aPure P (part t0 #[.int .i64 x.k, .int .i64 x.n, .float .f64 x.x, .string x.s, .bool x.b] 0) = some (.int .i64 x.k) := fun x => aPure_part u0 rfl
  have p1 : ∀ x : Vl, aPure P (part t1 #[.int .i64 x.k, .int .i64 x.n, .float .f64 x.x, .string x.s, .bool x.b] 1) = some (.int .i64 x.n) := fun x => aPure_part u1 rfl
  have p2 : ∀ x : Vl, aPure P (part t2 #[.int .i64 x.k, .int .i64 x.n, .float .f64 x.x, .string x.s, .bool x.b] 2) = some (.float .f64 x.x) := fun x => aPure_partF u2 rfl
  have p3 : ∀ x : Vl, aPure P (part t3 #[.int .i64 x.k, .int .i64 x.n, .float .f64 x.x, .string x.s, .bool x.b] 3) = some (.string x.s) := fun x => aPure_partS u3 rfl
  have p4 : ∀ x : Vl, aPure P (part t4 #[.int .i64 x.k, .int .i64 x.n, .float .f64 x.x, .string x.s, .bool x.b] 4) = some (.bool x.b) := fun x => aPure_partB u4 rfl
  have q0 := fun x y => aPure_eqInt u0 d x y
  have q1 := fun x y => aPure_eqInt u1 d x y
  have q2 := fun x y => aPure_eqFlt u2 d x y
  have q3 := fun x y => aPure_eqStr u3 d x y
  have q4 := fun x y => aPure_eqBool u4 d x y
  unfold eqVl
  cases c0 : (v.k == w.k)
  · simp [n0, y0, o0, aPure_bind, aPure_pure, p0, q0, c0]
  cases c1 : (v.n == w.n)
  · simp [n0, y0, o0, n1, y1, o1, aPure_bind, aPure_pure, p0, q0, c0, p1, q1, c1]
  cases c2 : (Op.floatEq .f64 v.x w.x)
  · simp [n0, y0, o0, n1, y1, o1, n2, y2, o2, aPure_bind, aPure_pure, p0, q0, c0, p1, q1, c1, p2, q2, c2]
  cases c3 : (v.s == w.s)
  · simp [n0, y0, o0, n1, y1, o1, n2, y2, o2, n3, y3, o3, aPure_bind, aPure_pure, p0, q0, c0, p1, q1, c1, p2, q2, c2, p3, q3, c3]
  cases c4 : (v.b == w.b)
  · simp [n0, y0, o0, n1, y1, o1, n2, y2, o2, n3, y3, o3, n4, y4, o4, aPure_bind, aPure_pure, p0, q0, c0, p1, q1, c1, p2, q2, c2, p3, q3, c3, p4, q4, c4]
  · simp [n0, y0, o0, n1, y1, o1, n2, y2, o2, n3, y3, o3, n4, y4, o4, aPure_bind, aPure_pure, p0, q0, c0, p1, q1, c1, p2, q2, c2, p3, q3, c3, p4, q4, c4]
theorem aBin_eqlV {P : Program} {t : TypeId} (h : ∀ v w, aPure P (Op.equal t (vlV v) (vlV w)) = some (eqVl v w)) (hg : P.eqGuardType P.depth t = false) (x y : Operand) (v w : Vl) : aBin P .eql t x y (.agg (vlC v)) (.agg (vlC w)) = some (.bool (eqVl v w)) := by
  have gd : aPure P (eqGuard .eql t x y (vlV v) (vlV w)) = some () := by
    simp only [vlV, eqGuard, Bool.not_true, Bool.false_eq_true, if_false, aPure_bind, aPure_prog, Option.bind_some, hg]
    rfl
  have bn : aPure P (binOp .eql t (vlV v) (vlV w)) = some (.bool (eqVl v w)) := by
    show aPure P (Op.equal t (vlV v) (vlV w) >>= fun r => pure (Value.bool r)) = _
    rw [aPure_bind, h v w]
    rfl
  have v1 : ∀ v : Vl, (AVal.agg (vlC v)).toV = some (vlV v) := fun v => rfl
  simp only [aBin, v1, aPure_bind, gd, bn, Option.bind_some]
  rfl
theorem bytesBeq (a b : ByteArray) : (a == b) = (a.toList == b.toList) := by
  rw [Bool.eq_iff_iff, Go.MapKept.bytes_beq, beq_iff_eq, ByteArray.toList_eq, ByteArray.toList_eq]
  exact ⟨fun h => by rw [h], fun h => Go.WideShapes.bytes_inj h⟩
theorem eqVl_eq (v w : Vl) : eqVl v w = (v.k == w.k && (v.n == w.n && (ford v.x w.x == some .eq && (v.s.toList == w.s.toList && v.b == w.b)))) := by
  unfold eqVl
  rw [bytesBeq]
  rfl
end Go.Proofs.Ytjoniicebjpdaaa

/-! When values are the same, and right. -/
namespace Go.Proofs.Ytjoniicebjpdaaa
open Go.Ab

section
variable {X : XTab}

def sameV (v w : Vl) : Bool := v.k == w.k && v.n == w.n && v.s.toList == w.s.toList && v.b == w.b && bitsF v.x == bitsF w.x

theorem sameV_self (v : Vl) : sameV v v = true := by simp [sameV]

def vl0 : Vl := ⟨0, 0, 0, bs [], false⟩

def x0B (v : Vl) : Bool := ford v.x 0 == some .eq

def s0B (v : Vl) : Bool := v.s.toList == (bs []).toList

def rightV (v : Vl) : Bool := if v.k = 1 then x0B v && (s0B v && !v.b) else if v.k = 2 then v.n == 0 && (s0B v && !v.b) else if v.k = 3 then v.n == 0 && (x0B v && (!v.b && decide (v.s.size ≤ 12))) else if v.k = 4 then v.n == 0 && (x0B v && s0B v) else false

theorem s0_size {v : Vl} (h : s0B v = true) : v.s.size = 0 := by
  have : v.s.toList = (bs []).toList := by simpa [s0B] using h
  rw [ByteArray.toList_eq, ByteArray.toList_eq] at this
  have := Go.WideShapes.bytes_inj this
  rw [this]; rfl

theorem eq24 : ∀ v w : Vl, aPure Try.prog (Op.equal 24 (vlV v) (vlV w)) = some (eqVl v w) := fun v w =>
  aPure_eq5 (t0 := 3) (t1 := 2) (t2 := 22) (t3 := 9) (t4 := 4) Try.underlying24 ⟨by decide, rfl, rfl⟩ ⟨by decide, rfl, rfl⟩ ⟨by decide, rfl, rfl⟩ ⟨by decide, rfl, rfl⟩ ⟨by decide, rfl, rfl⟩ Try.underlying3 Try.underlying2 Try.underlying22 Try.underlying9 Try.underlying4 (by kernel_rfl) 9998 v w

theorem guard24 : Try.prog.eqGuardType Try.prog.depth 24 = false := by kernel_rfl

theorem zero24 (x y : Operand) (n : Int) (f : Nat) (s : ByteArray) (b : Bool) : aBin Try.prog .eql 24 x y (.agg [I 0, I n, .flt .f64 f, .str s, .bool b]) (.agg [I 0, I 0, .flt .f64 0, .str (bs []), .bool false]) = some (.bool (n == 0 && (ford f 0 == some .eq && (s.toList == (bs []).toList && !b)))) := by
  have := aBin_eqlV eq24 guard24 x y ⟨0, n, f, s, b⟩ vl0
  rw [eqVl_eq] at this
  simpa [vlC, vl0] using this

end
end Go.Proofs.Ytjoniicebjpdaaa

/-! What float.Bits and precentorref1.Bits tell. -/
namespace Go.Proofs.Ytjoniicebjpdaaa
open Go.Ab

section
variable {X : XTab}

theorem IsNaN_ (hX : OnlyKnown X) (x : Nat) (h : Heap) : Tells (fun q => acallX Try.prog X q F_math_IsNaN [.flt .f64 x] h) fun r h' => r = .bool (ford x x != some .eq) ∧ h' = h := by
  refine R_math_IsNaN _ (hX _ _ rfl) ?_
  unfold S_math_IsNaN
  try simp
  exact Tells.ok ⟨rfl, rfl⟩

theorem float_Bits (hX : OnlyKnown X) (x : Nat) (h : Heap) : Tells (fun q => acallX Try.prog X q F_float_Bits [.flt .f64 x] h) fun r h' => r = .int .u64 (bitsF x) ∧ h' = h := by
  refine R_float_Bits _ (hX _ _ rfl) ?_
  refine Tells.prot fun Q' hQ => ?_
  unfold S_float_Bits
  try simp
  refine Tells.bind (IsNaN_ hX x h) ?_
  rintro _ h ⟨rfl, rfl⟩
  cases h1 : (ford x x != some .eq) with
  | true =>
    try simp
    exact Tells.ok (hQ _ _ ⟨by simp [bitsF, h1], rfl⟩)
  | false =>
    cases h2 : (ford x 0 == some .eq) with
    | true =>
      simp [J_float_Bits_0, h2]
      exact Tells.ok (hQ _ _ ⟨by simp [bitsF, h1, h2], rfl⟩)
    | false =>
      simp [J_float_Bits_0, h2, J_float_Bits_1, nat_bits]
      exact Tells.ok (hQ _ _ ⟨by simp [bitsF, h1, h2], rfl⟩)

theorem float_Same (hX : OnlyKnown X) (x y : Nat) (h : Heap) : Tells (fun q => acallX Try.prog X q F_float_Same [.flt .f64 x, .flt .f64 y] h) fun r h' => r = .bool (bitsF x == bitsF y) ∧ h' = h := by
  refine R_float_Same _ _ (hX _ _ rfl) ?_
  refine Tells.prot fun Q' hQ => ?_
  unfold S_float_Same
  try simp
  refine Tells.bind (float_Bits hX x h) ?_
  rintro _ h ⟨rfl, rfl⟩
  try simp
  refine Tells.bind (float_Bits hX y h) ?_
  rintro _ h ⟨rfl, rfl⟩
  try simp
  exact Tells.ok (hQ _ _ ⟨rfl, rfl⟩)

theorem ref_Bits (hX : OnlyKnown X) (x : Nat) (h : Heap) : Tells (fun q => acallX Try.prog X q F_precentorref1_Bits [.flt .f64 x] h) fun r h' => r = .int .u64 (bitsF x) ∧ h' = h := by
  refine R_precentorref1_Bits _ (hX _ _ rfl) ?_
  refine Tells.prot fun Q' hQ => ?_
  unfold S_precentorref1_Bits
  cases h1 : (ford x x != some .eq) with
  | true =>
    simp [h1]
    exact Tells.ok (hQ _ _ ⟨by simp [bitsF, h1], rfl⟩)
  | false =>
    cases h2 : (ford x 0 == some .eq) with
    | true =>
      simp [h1, J_precentorref1_Bits_0, h2]
      exact Tells.ok (hQ _ _ ⟨by simp [bitsF, h1, h2], rfl⟩)
    | false =>
      simp [h1, J_precentorref1_Bits_0, h2, J_precentorref1_Bits_1, nat_bits]
      exact Tells.ok (hQ _ _ ⟨by simp [bitsF, h1, h2], rfl⟩)

end
end Go.Proofs.Ytjoniicebjpdaaa

/-! What float's Cmp, CmpInt, Of tell, and the document's own. -/
namespace Go.Proofs.Ytjoniicebjpdaaa
open Go.Ab

theorem key_top : keyF 4890909195324358656 = some (9223372036854775808 * (E1074 : Int)) := by
  have h1 : rungF 4890909195324358656 = 4890909195324358656 := by decide
  have h2 : sgF 4890909195324358656 = false := by decide
  have h3 : maF 4890909195324358656 = 4503599627370496 := by decide
  have h4 : plF 4890909195324358656 = 11 + 1074 := by decide
  unfold keyF
  rw [h1, h2, if_pos (by decide)]
  unfold mgF
  rw [h3, h4, E_split (p := 11 + 1074) (q := 11) rfl]
  show some (((4503599627370496 * (2 ^ 11 * E1074) : Nat) : Int)) = _
  have : 4503599627370496 * (2 ^ 11 * E1074) = 9223372036854775808 * E1074 := by rw [← Nat.mul_assoc]
  rw [this]
  simp
theorem key_bot : keyF 14114281232179134464 = some (-(9223372036854775808 * (E1074 : Int))) := by
  have h1 : rungF 14114281232179134464 = 4890909195324358656 := by decide
  have h2 : sgF 14114281232179134464 = true := by decide
  have h3 : maF 4890909195324358656 = 4503599627370496 := by decide
  have h4 : plF 4890909195324358656 = 11 + 1074 := by decide
  unfold keyF
  rw [h1, h2, if_pos (by decide)]
  unfold mgF
  rw [h3, h4, E_split (p := 11 + 1074) (q := 11) rfl]
  show some (-((4503599627370496 * (2 ^ 11 * E1074) : Nat) : Int)) = _
  have : 4503599627370496 * (2 ^ 11 * E1074) = 9223372036854775808 * E1074 := by rw [← Nat.mul_assoc]
  rw [this]
  simp

theorem trunc_nat {x : Nat} {a : Int} (k : keyF x = some a) : aNat Try.prog F_math_archTrunc [.flt .f64 x] = some (.flt .f64 (trF x)) := by
  have e : ∃ s m i, Ieee.double.read x = .number s m i ∨ Ieee.double.read x = .infinity s := by
    unfold keyF at k
    split at k
    · rename_i h
      rcases Nat.lt_or_eq_of_le h with q | q
      · exact ⟨_, _, _, .inl (read_num q)⟩
      · exact ⟨_, 0, 0, .inr (read_inf q)⟩
    · cases k
  have hn : aNat Try.prog F_math_archTrunc [.flt .f64 x] = aPureB Try.prog (Go.Extern.MathFloor.toIntegral "math.archTrunc" .zero) [.flt .f64 x] := by kernel_rfl
  rw [hn]
  obtain ⟨s, m, i, e⟩ := e
  have e2 : Go.Extern.MathFloor.toIntegral "math.archTrunc" .zero #[.float .f64 x] = pure (Value.float .f64 (trF x)) := by
    show (match FloatKind.f64.decode x with
      | .nan s t => _
      | d => pure (Value.float .f64 (FloatKind.f64.encode (d.integral .zero)))) = _
    have hd : FloatKind.f64.decode x = Ieee.double.read x := rfl
    rw [hd]
    unfold trF
    rcases e with e | e <;> rw [e] <;> rfl
  have v1 : AVal.toVs [.flt .f64 x] = some [.float .f64 x] := rfl
  unfold aPureB
  rw [v1]
  show (match aPure Try.prog (Go.Extern.MathFloor.toIntegral "math.archTrunc" .zero #[.float .f64 x]) with
    | some r => some (ofV 0 r)
    | none => none) = _
  rw [e2]
  rfl

/-- A float to a whole number, where there is one. -/
theorem conv_w {h : Heap} {x : Nat} {w : Int} (e : (Ieee.double.read x).toInt .zero = some w) (h1 : -9223372036854775808 ≤ w) (h2 : w ≤ 9223372036854775807) : aConv Try.prog h 22 2 (.flt .f64 x) = .val (I w) h := by
  have hn : aConv Try.prog h 22 2 (.flt .f64 x) = match aPure Try.prog (Conv.floatToInt .f64 x .i64) with
    | some r => .val (ofV 0 r) h
    | none => .fail := by kernel_rfl
  rw [hn]
  have : aPure Try.prog (Conv.floatToInt .f64 x .i64) = some (.int .i64 w) := by
    unfold Conv.floatToInt
    show aPure Try.prog (match (Ieee.double.read x).toInt .zero with
      | some n => if IntKind.min .i64 ≤ n ∧ n ≤ IntKind.max .i64 then pure (Value.int .i64 n) else _
      | none => _) = _
    rw [e]
    simp only
    rw [if_pos ⟨h1, h2⟩]
    rfl
  rw [this]
  rfl

theorem sgI_lt {a b : Int} (h : a < b) : sgI a b = -1 := by unfold sgI; rw [if_pos h]
theorem sgI_gt {a b : Int} (h : b < a) : sgI a b = 1 := by unfold sgI; rw [if_neg (by omega), if_pos h]
theorem sgI_eq (a : Int) : sgI a a = 0 := by unfold sgI; rw [if_neg (by omega), if_neg (by omega)]
theorem E_posI : (0 : Int) < (E1074 : Int) := Int.ofNat_lt.2 E_pos
theorem mul_lt {a b : Int} (h : a < b) : a * (E1074 : Int) < b * (E1074 : Int) := Int.mul_lt_mul_of_pos_right h E_posI
theorem mul_le {a b : Int} (h : a ≤ b) : a * (E1074 : Int) ≤ b * (E1074 : Int) := Int.mul_le_mul_of_nonneg_right h (Int.le_of_lt E_posI)
/-- A number beside a float, by the float's whole part. -/
theorem whole_lt {n w a : Int} (h0 : 0 ≤ a → w = a / (E1074 : Int)) (h1 : a ≤ 0 → w = -((-a) / (E1074 : Int))) : (n < w → n * (E1074 : Int) < a) ∧ (w < n → a < n * (E1074 : Int)) := by
  have hE := E_posI
  rcases Int.le_total 0 a with ha | ha
  · have hw := h0 ha
    have e1 : w * (E1074 : Int) ≤ a := by rw [hw]; exact Int.ediv_mul_le a (by omega)
    have e2 : a < (w + 1) * (E1074 : Int) := by rw [hw]; exact Int.lt_ediv_add_one_mul_self a hE
    refine ⟨fun h => ?_, fun h => ?_⟩
    · have := mul_lt h; omega
    · have := mul_le (show w + 1 ≤ n by omega); omega
  · have hw := h1 ha
    have e1 : (-a) / (E1074 : Int) * (E1074 : Int) ≤ -a := Int.ediv_mul_le (-a) (by omega)
    have e2 : -a < ((-a) / (E1074 : Int) + 1) * (E1074 : Int) := Int.lt_ediv_add_one_mul_self (-a) hE
    generalize (-a) / (E1074 : Int) = q at *
    subst hw
    have e3 : -q * (E1074 : Int) = -(q * (E1074 : Int)) := Int.neg_mul _ _
    have e4 : (-q - 1) * (E1074 : Int) = -((q + 1) * (E1074 : Int)) := by rw [← Int.neg_mul]; congr 1; omega
    refine ⟨fun h => ?_, fun h => ?_⟩
    · have := mul_le (show n ≤ -q - 1 by omega); omega
    · have := mul_lt h; omega

section
variable {X : XTab}

theorem float_sign (hX : OnlyKnown X) (b a : Bool) (h : Heap) : Tells (fun q => acallX Try.prog X q F_float_sign [.bool b, .bool a] h) fun r h' => r = I (if b then -1 else if a then 1 else 0) ∧ h' = h := by
  refine R_float_sign _ _ (hX _ _ rfl) ?_
  unfold S_float_sign
  cases b
  · cases a
    · simp [J_float_sign_0]
      exact Tells.ok ⟨rfl, rfl⟩
    · simp
      exact Tells.ok ⟨rfl, rfl⟩
  · simp
    exact Tells.ok ⟨rfl, rfl⟩
theorem sign_sgI (p q : Int) : (if compare p q == Ordering.lt then (-1 : Int) else if compare p q == Ordering.gt then 1 else 0) = sgI p q := by
  rw [cmp_def]
  unfold sgI
  by_cases h1 : p < q
  · simp [h1]
  · by_cases h2 : p = q
    · simp [h1, h2]
    · have : q < p := by omega
      simp [h1, h2, this]

theorem sign_sgI' (p q : Int) : (if compare p q = Ordering.lt then (-1 : Int) else if compare p q = Ordering.gt then 1 else 0) = sgI p q := by
  rw [← sign_sgI]
  simp

theorem float_Cmp (hX : OnlyKnown X) (a b : Nat) (h : Heap) : Tells (fun q => acallX Try.prog X q F_float_Cmp [.flt .f64 a, .flt .f64 b] h) fun r h' => r = .tup [I (cmpF a b).1, .bool (cmpF a b).2] ∧ h' = h := by
  refine R_float_Cmp _ _ (hX _ _ rfl) ?_
  refine Tells.prot fun Q' hQ => ?_
  unfold S_float_Cmp
  try simp
  refine Tells.bind (IsNaN_ hX a h) ?_
  rintro _ h ⟨rfl, rfl⟩
  rw [nan_key]
  cases ka : keyF a with
  | none =>
    simp
    exact Tells.ok (hQ _ _ ⟨by simp [cmpF, ka], rfl⟩)
  | some p =>
    simp
    refine Tells.bind (IsNaN_ hX b h) ?_
    rintro _ h ⟨rfl, rfl⟩
    rw [nan_key]
    cases kb : keyF b with
    | none =>
      simp
      exact Tells.ok (hQ _ _ ⟨by simp [cmpF, ka, kb], rfl⟩)
    | some q =>
      simp [J_float_Cmp_0, ford_some ka kb]
      refine Tells.bind (float_sign hX _ _ h) ?_
      rintro _ h ⟨rfl, rfl⟩
      try simp
      refine Tells.ok (hQ _ _ ⟨?_, rfl⟩)
      simp only [cmpF, ka, kb]
      rw [← sign_sgI']

theorem ref_Cmp (hX : OnlyKnown X) (a b : Nat) (h : Heap) : Tells (fun q => acallX Try.prog X q F_precentorref1_Cmp [.flt .f64 a, .flt .f64 b] h) fun r h' => r = .tup [I (cmpF a b).1, .bool (cmpF a b).2] ∧ h' = h := by
  refine R_precentorref1_Cmp _ _ (hX _ _ rfl) ?_
  unfold S_precentorref1_Cmp
  cases ka : keyF a with
  | none =>
    simp [ford_none (x := a) (y := a) (.inl ka)]
    exact Tells.ok ⟨by simp [cmpF, ka], rfl⟩
  | some p =>
    cases kb : keyF b with
    | none =>
      simp [ford_some ka ka, cmp_eq, ford_none (x := b) (y := b) (.inl kb)]
      exact Tells.ok ⟨by simp [cmpF, ka, kb], rfl⟩
    | some q =>
      have e : cmpF a b = (sgI p q, true) := by simp [cmpF, ka, kb]
      rw [e]
      rcases Int.lt_trichotomy p q with c | c | c
      · simp [ford_some ka ka, ford_some kb kb, cmp_eq, ford_some ka kb, cmp_lt c]
        exact Tells.ok ⟨by rw [sgI_lt c], rfl⟩
      · subst c
        simp [ford_some ka ka, ford_some kb kb, cmp_eq, ford_some ka kb, J_precentorref1_Cmp_0]
        exact Tells.ok ⟨by rw [sgI_eq], rfl⟩
      · simp [ford_some ka ka, ford_some kb kb, cmp_eq, ford_some ka kb, cmp_gt c]
        exact Tells.ok ⟨by rw [sgI_gt c], rfl⟩

theorem math_Trunc (hX : OnlyKnown X) {x : Nat} {a : Int} (k : keyF x = some a) (h : Heap) : Tells (fun q => acallX Try.prog X q F_math_Trunc [.flt .f64 x] h) fun r h' => r = .flt .f64 (trF x) ∧ h' = h := by
  refine R_math_Trunc _ (hX _ _ rfl) ?_
  unfold S_math_Trunc
  simp [trunc_nat k]
  exact Tells.ok ⟨rfl, rfl⟩

theorem cmpIF_some {n : Int} {x : Nat} {a : Int} (k : keyF x = some a) : cmpIF n x = (sgI (n * (E1074 : Int)) a, true) := by simp [cmpIF, k]

theorem float_CmpInt (hX : OnlyKnown X) (n : Int) (hn : In64 n) (x : Nat) (h : Heap) : Tells (fun q => acallX Try.prog X q F_float_CmpInt [I n, .flt .f64 x] h) fun r h' => r = .tup [I (cmpIF n x).1, .bool (cmpIF n x).2] ∧ h' = h := by
  refine R_float_CmpInt _ _ (hX _ _ rfl) ?_
  refine Tells.prot fun Q' hQ => ?_
  unfold S_float_CmpInt
  try simp
  refine Tells.bind (IsNaN_ hX x h) ?_
  rintro _ h ⟨rfl, rfl⟩
  rw [nan_key]
  have hE := E_posI
  have hb1 := mul_le (show -9223372036854775808 ≤ n from hn.1)
  have hb2 := mul_lt hn.2
  cases k : keyF x with
  | none =>
    simp
    exact Tells.ok (hQ _ _ ⟨by simp [cmpIF, k], rfl⟩)
  | some a =>
  rw [cmpIF_some k] at hQ
  by_cases c1 : 9223372036854775808 * (E1074 : Int) ≤ a
  · have : (ford x 4890909195324358656 == some .gt || ford x 4890909195324358656 == some .eq) = true := by
      rw [ford_some k key_top]
      rcases Int.lt_or_eq_of_le c1 with q | q
      · rw [cmp_gt q]; rfl
      · rw [q, cmp_eq]; rfl
    simp [this]
    exact Tells.ok (hQ _ _ ⟨by rw [sgI_lt (by omega)], rfl⟩)
  have f1 : (ford x 4890909195324358656 == some .gt || ford x 4890909195324358656 == some .eq) = false := by
    rw [ford_some k key_top, cmp_lt (by omega)]; rfl
  by_cases c2 : a < -(9223372036854775808 * (E1074 : Int))
  · have : (ford x 14114281232179134464 == some .lt) = true := by
      rw [ford_some k key_bot, cmp_lt c2]; rfl
    simp only [f1, aBin_fgeq, aBin_flss, this]
    try simp
    exact Tells.ok (hQ _ _ ⟨by rw [sgI_gt (by omega)], rfl⟩)
  have f2 : (ford x 14114281232179134464 == some .lt) = false := by
    rw [ford_some k key_bot]
    rw [beq_eq_false_iff_ne]
    intro q
    exact c2 (cmp_iff_lt.1 (Option.some.inj q))
  obtain ⟨w, t1, t2, t3, t4, _, t5, t6⟩ := trunc_ k (by omega) (by omega)
  obtain ⟨l1, l2⟩ := whole_lt (n := n) t5 t6
  simp only [aBin_fgeq, f1, aBin_flss, f2]
  simp [J_float_CmpInt_0]
  refine Tells.bind (math_Trunc hX k h) ?_
  rintro _ h ⟨rfl, rfl⟩
  simp [conv_w t1 t2 t3]
  by_cases c3 : w = n
  · subst c3
    simp [J_float_CmpInt_1, ford_some t4 k]
    refine Tells.bind (float_sign hX _ _ h) ?_
    rintro _ h ⟨rfl, rfl⟩
    try simp
    refine Tells.ok (hQ _ _ ⟨?_, rfl⟩)
    rw [← sign_sgI']
  · have b3 : (w != n) = true := by simp [c3]
    simp [b3]
    refine Tells.bind (float_sign hX _ _ h) ?_
    rintro _ h ⟨rfl, rfl⟩
    try simp
    refine Tells.ok (hQ _ _ ⟨?_, rfl⟩)
    rcases Int.lt_or_gt_of_ne (Ne.symm c3) with q | q
    · rw [sgI_lt (l1 q)]; simp [q]
    · rw [sgI_gt (l2 q)]; simp [q, show ¬ n < w by omega]

theorem ref_CmpInt (hX : OnlyKnown X) (n : Int) (hn : In64 n) (x : Nat) (h : Heap) : Tells (fun q => acallX Try.prog X q F_precentorref1_CmpInt [I n, .flt .f64 x] h) fun r h' => r = .tup [I (cmpIF n x).1, .bool (cmpIF n x).2] ∧ h' = h := by
  refine R_precentorref1_CmpInt _ _ (hX _ _ rfl) ?_
  refine Tells.prot fun Q' hQ => ?_
  unfold S_precentorref1_CmpInt
  have hE := E_posI
  have hb1 := mul_le (show -9223372036854775808 ≤ n from hn.1)
  have hb2 := mul_lt hn.2
  cases k : keyF x with
  | none =>
    simp [ford_none (x := x) (y := x) (.inl k)]
    exact Tells.ok (hQ _ _ ⟨by simp [cmpIF, k], rfl⟩)
  | some a =>
  rw [cmpIF_some k] at hQ
  have f0 : (ford x x != some .eq) = false := by rw [nan_key, k]; rfl
  by_cases c1 : 9223372036854775808 * (E1074 : Int) ≤ a
  · have : (ford x 4890909195324358656 == some .gt || ford x 4890909195324358656 == some .eq) = true := by
      rw [ford_some k key_top]
      rcases Int.lt_or_eq_of_le c1 with q | q
      · rw [cmp_gt q]; rfl
      · rw [q, cmp_eq]; rfl
    simp [f0, this]
    exact Tells.ok (hQ _ _ ⟨by rw [sgI_lt (by omega)], rfl⟩)
  have f1 : (ford x 4890909195324358656 == some .gt || ford x 4890909195324358656 == some .eq) = false := by
    rw [ford_some k key_top, cmp_lt (by omega)]; rfl
  by_cases c2 : a < -(9223372036854775808 * (E1074 : Int))
  · have : (ford x 14114281232179134464 == some .lt) = true := by
      rw [ford_some k key_bot, cmp_lt c2]; rfl
    simp [f0, f1, this]
    exact Tells.ok (hQ _ _ ⟨by rw [sgI_gt (by omega)], rfl⟩)
  have f2 : (ford x 14114281232179134464 == some .lt) = false := by
    rw [ford_some k key_bot]
    rw [beq_eq_false_iff_ne]
    intro q
    exact c2 (cmp_iff_lt.1 (Option.some.inj q))
  obtain ⟨w, t1, t2, t3, t4, _, t5, t6⟩ := trunc_ k (by omega) (by omega)
  obtain ⟨l1, l2⟩ := whole_lt (n := n) t5 t6
  simp [f0, f1, f2, J_precentorref1_CmpInt_0]
  refine Tells.bind (math_Trunc hX k h) ?_
  rintro _ h ⟨rfl, rfl⟩
  simp [conv_w t1 t2 t3]
  rcases Int.lt_trichotomy n w with c3 | c3 | c3
  · simp [c3]
    exact Tells.ok (hQ _ _ ⟨by rw [sgI_lt (l1 c3)], rfl⟩)
  · subst c3
    rcases Int.lt_trichotomy (n * (E1074 : Int)) a with c | c | c
    · simp [ford_some t4 k, cmp_lt c]
      exact Tells.ok (hQ _ _ ⟨by rw [sgI_lt c], rfl⟩)
    · rw [c] at t4
      simp [ford_some t4 k, cmp_eq, J_precentorref1_CmpInt_1]
      exact Tells.ok (hQ _ _ ⟨by rw [c, sgI_eq], rfl⟩)
    · simp [ford_some t4 k, cmp_gt c]
      exact Tells.ok (hQ _ _ ⟨by rw [sgI_gt c], rfl⟩)
  · simp [c3, show ¬ n < w by omega]
    exact Tells.ok (hQ _ _ ⟨by rw [sgI_gt (l2 c3)], rfl⟩)

end
end Go.Proofs.Ytjoniicebjpdaaa

/-! The plain law of values compared. -/
namespace Go.Proofs.Ytjoniicebjpdaaa
open Go.Ab

theorem sgI_zero (p q : Int) : (sgI p q == 0) = (p == q) := by
  rcases Int.lt_trichotomy p q with h | h | h
  · rw [sgI_lt h]
    have : (p == q) = false := beq_eq_false_iff_ne.2 (by omega)
    rw [this]; rfl
  · subst h; rw [sgI_eq]; simp
  · rw [sgI_gt h]
    have : (p == q) = false := beq_eq_false_iff_ne.2 (by omega)
    rw [this]; rfl
theorem fl14_lt : ∀ x, x ∈ fl14 → x < 18446744073709551616 := by decide
theorem sgI_three (p q : Int) : sgI p q = -1 ∧ p < q ∨ sgI p q = 0 ∧ p = q ∨ sgI p q = 1 ∧ q < p := by
  rcases Int.lt_trichotomy p q with h | h | h
  · exact .inl ⟨sgI_lt h, h⟩
  · subst h; exact .inr (.inl ⟨sgI_eq _, rfl⟩)
  · exact .inr (.inr ⟨sgI_gt h, h⟩)
theorem cmpF_eq {a b : Nat} {p q : Int} (ka : keyF a = some p) (kb : keyF b = some q) : cmpF a b = (sgI p q, true) := by simp [cmpF, ka, kb]
theorem cmpF_none {a b : Nat} (h : keyF a = none ∨ keyF b = none) : cmpF a b = (0, false) := by
  unfold cmpF
  rcases h with h | h
  · rw [h]
  · rw [h]; cases keyF a <;> rfl
theorem cmpIF_none {n : Int} {x : Nat} (k : keyF x = none) : cmpIF n x = (0, false) := by simp [cmpIF, k]

/-- How texts stand to one another. -/
def ordB (below above : Bool) : Int := if below then -1 else if above then 1 else 0
def sgT (a b : ByteArray) : Int := ordB (Op.bytesLess a.toList b.toList) (!(Op.bytesLess a.toList b.toList || a.toList == b.toList))
def cmpV (v w : Vl) : Int × Bool :=
  if v.k = 1 ∧ w.k = 1 then (sgI v.n w.n, true)
  else if v.k = 2 ∧ w.k = 2 then cmpF v.x w.x
  else if v.k = 1 ∧ w.k = 2 then cmpIF v.n w.x
  else if v.k = 2 ∧ w.k = 1 then (-(cmpIF w.n v.x).1, (cmpIF w.n v.x).2)
  else if v.k = 3 ∧ w.k = 3 then (sgT v.s w.s, true)
  else if v.k = 4 ∧ w.k = 4 then (ordB (!v.b && w.b) (v.b && !w.b), true)
  else (0, false)
theorem sgI_in (p q : Int) : -1 ≤ sgI p q ∧ sgI p q ≤ 1 := by
  rcases sgI_three p q with ⟨e, _⟩ | ⟨e, _⟩ | ⟨e, _⟩ <;> omega
theorem cmpIF_in (n : Int) (x : Nat) : -1 ≤ (cmpIF n x).1 ∧ (cmpIF n x).1 ≤ 1 := by
  unfold cmpIF
  split
  · exact sgI_in _ _
  · simp

/-! ### values of the feed -/

def rkT (a : ByteArray) : Int := (texts6.findIdx fun b => b.toList == a.toList : Nat)
theorem sgT_rk : ∀ a, a ∈ texts6 → ∀ b, b ∈ texts6 → sgT a b = sgI (rkT a) (rkT b) := by decide +kernel
def b2i (b : Bool) : Int := if b then 1 else 0
theorem ord_bool (a b : Bool) : ordB (!a && b) (a && !b) = sgI (b2i a) (b2i b) := by cases a <;> cases b <;> decide
/-- Its kind, and where it stands in it. -/
def fk (v : Vl) : Option (Nat × Int) :=
  if v.k = 1 then some (0, v.n * (E1074 : Int)) else if v.k = 2 then (keyF v.x).map fun p => (0, p) else if v.k = 3 then some (1, rkT v.s) else some (2, b2i v.b)
theorem sgI_scale (a b : Int) : sgI (a * (E1074 : Int)) (b * (E1074 : Int)) = sgI a b := by
  have hE := E_posI
  rcases Int.lt_trichotomy a b with h | h | h
  · rw [sgI_lt h, sgI_lt (mul_lt h)]
  · subst h; rw [sgI_eq, sgI_eq]
  · rw [sgI_gt h, sgI_gt (mul_lt h)]
def cmpK (a b : Option (Nat × Int)) : Int × Bool := match a, b with
  | some (c, p), some (d, q) => if c = d then (sgI p q, true) else (0, false)
  | _, _ => (0, false)
theorem fed_k {v : Vl} (h : FedV v) : v.k = 1 ∨ v.k = 2 ∨ (v.k = 3 ∧ v.s ∈ texts6) ∨ v.k = 4 := by
  rcases h with ⟨k, _⟩ | ⟨k, _⟩ | ⟨k, _, _, s, _⟩ | ⟨k, _⟩
  · exact .inl k
  · exact .inr (.inl k)
  · exact .inr (.inr (.inl ⟨k, s⟩))
  · exact .inr (.inr (.inr k))
theorem cmpV_fed {v w : Vl} (hv : FedV v) (hw : FedV w) : cmpV v w = cmpK (fk v) (fk w) := by
  rcases fed_k hv with a | a | ⟨a, sa⟩ | a <;> rcases fed_k hw with b | b | ⟨b, sb⟩ | b
  · simp [cmpV, fk, a, b, cmpK, sgI_scale]
  · cases kb : keyF w.x with
    | none => simp [cmpV, fk, a, b, cmpK, kb, cmpIF_none kb]
    | some q => simp [cmpV, fk, a, b, cmpK, kb, cmpIF_some kb]
  · simp [cmpV, fk, a, b, cmpK]
  · simp [cmpV, fk, a, b, cmpK]
  · cases ka : keyF v.x with
    | none => simp [cmpV, fk, a, b, cmpK, ka, cmpIF_none ka]
    | some q => simp [cmpV, fk, a, b, cmpK, ka, cmpIF_some ka, sgI_neg (w.n * (E1074 : Int)) q]
  · cases ka : keyF v.x with
    | none => simp [cmpV, fk, a, b, cmpK, ka, cmpF_none (a := v.x) (b := w.x) (.inl ka)]
    | some p =>
      cases kb : keyF w.x with
      | none => simp [cmpV, fk, a, b, cmpK, ka, kb, cmpF_none (a := v.x) (b := w.x) (.inr kb)]
      | some q => simp [cmpV, fk, a, b, cmpK, ka, kb, cmpF_eq ka kb]
  · cases ka : keyF v.x <;> simp [cmpV, fk, a, b, cmpK, ka]
  · cases ka : keyF v.x <;> simp [cmpV, fk, a, b, cmpK, ka]
  · simp [cmpV, fk, a, b, cmpK]
  · cases kb : keyF w.x <;> simp [cmpV, fk, a, b, cmpK, kb]
  · simp [cmpV, fk, a, b, cmpK, sgT_rk _ sa _ sb]
  · simp [cmpV, fk, a, b, cmpK]
  · simp [cmpV, fk, a, b, cmpK]
  · cases kb : keyF w.x <;> simp [cmpV, fk, a, b, cmpK, kb]
  · simp [cmpV, fk, a, b, cmpK]
  · simp [cmpV, fk, a, b, cmpK, ord_bool]

theorem cmpK_in (a b : Option (Nat × Int)) : -1 ≤ (cmpK a b).1 ∧ (cmpK a b).1 ≤ 1 := by
  unfold cmpK
  split
  · split
    · exact sgI_in _ _
    · simp
  · simp
theorem cmpK_swap (a b : Option (Nat × Int)) : cmpK b a = (-(cmpK a b).1, (cmpK a b).2) := by
  rcases a with _ | ⟨c, p⟩ <;> rcases b with _ | ⟨d, q⟩ <;> simp [cmpK]
  by_cases h : c = d
  · simp [h, sgI_neg p q]
  · simp [h, Ne.symm h]
/-- Three of them. -/
theorem cmpK_three (a b c : Option (Nat × Int)) (h1 : (cmpK a b).2 = true) (h2 : (cmpK b c).2 = true) : (cmpK a c).2 = true ∧ ((cmpK a b).1 ≤ 0 → (cmpK b c).1 ≤ 0 → (cmpK a c).1 = min (cmpK a b).1 (cmpK b c).1) ∧ (0 ≤ (cmpK a b).1 → 0 ≤ (cmpK b c).1 → (cmpK a c).1 = max (cmpK a b).1 (cmpK b c).1) := by
  rcases a with _ | ⟨i, p⟩
  · simp [cmpK] at h1
  rcases b with _ | ⟨j, q⟩
  · simp [cmpK] at h1
  rcases c with _ | ⟨k, r⟩
  · simp [cmpK] at h2
  simp only [cmpK] at h1 h2 ⊢
  by_cases e1 : i = j
  · by_cases e2 : j = k
    · subst e1; subst e2
      simp only [if_true, true_and]
      rcases sgI_three p q with ⟨e, c1⟩ | ⟨e, c1⟩ | ⟨e, c1⟩ <;> rcases sgI_three q r with ⟨e', c2⟩ | ⟨e', c2⟩ | ⟨e', c2⟩ <;> rcases sgI_three p r with ⟨e3, c3⟩ | ⟨e3, c3⟩ | ⟨e3, c3⟩ <;> rw [e, e', e3] <;> omega
    · rw [if_neg e2] at h2; simp at h2
  · rw [if_neg e1] at h1; simp at h1

/-! ### what is the same -/

theorem sameV_comm (v w : Vl) : sameV v w = sameV w v := by
  unfold sameV
  rw [BEq.comm (a := v.k), BEq.comm (a := v.n), BEq.comm (a := v.s.toList), BEq.comm (a := v.b), BEq.comm (a := bitsF v.x)]
theorem fed_lt {v : Vl} (h : FedV v) : v.x < 18446744073709551616 := by
  rcases h with ⟨_, x, _⟩ | ⟨_, _, x, _⟩ | ⟨_, _, x, _⟩ | ⟨_, _, x, _⟩
  · rw [x]; decide
  · exact fl14_lt _ x
  · rw [x]; decide
  · rw [x]; decide
theorem same_key {v w : Vl} (hv : FedV v) (hw : FedV w) (h : sameV v w = true) : fk v = fk w := by
  simp only [sameV, Bool.and_eq_true, beq_iff_eq] at h
  obtain ⟨⟨⟨⟨h1, h2⟩, h3⟩, h4⟩, h5⟩ := h
  have hk : keyF v.x = keyF w.x := by
    have := bits_same (fed_lt hv) (fed_lt hw)
    rw [h5] at this
    simp only [beq_self_eq_true] at this
    unfold sameK at this
    cases ka : keyF v.x <;> cases kb : keyF w.x <;> rw [ka, kb] at this <;> simp at this
    rw [this]
  have hs : rkT v.s = rkT w.s := by unfold rkT; rw [h3]
  unfold fk
  rw [h1, h2, hk, hs, h4]
theorem texts6_size : ∀ s, s ∈ texts6 → s.size ≤ 12 := by decide +kernel
theorem fed_right {v : Vl} (h : FedV v) : rightV v = true := by
  have x00 : (ford 0 0 == some .eq) = true := by decide +kernel
  rcases h with ⟨k, x, s, b, _⟩ | ⟨k, n, x, s, b⟩ | ⟨k, n, x, s, b⟩ | ⟨k, n, x, s⟩
  · simp [rightV, x0B, s0B, k, x, s, b, x00]
  · simp [rightV, x0B, s0B, k, n, s, b]
  · simp [rightV, x0B, s0B, k, n, x, b, x00, texts6_size _ s]
  · simp [rightV, x0B, s0B, k, n, x, s, x00]
theorem fed_in {v : Vl} (h : FedV v) : In64 v.n := by
  rcases h with ⟨_, _, _, _, n⟩ | ⟨_, n, _⟩ | ⟨_, n, _⟩ | ⟨_, n, _⟩
  · exact n
  · rw [n]; exact ⟨by decide, by decide⟩
  · rw [n]; exact ⟨by decide, by decide⟩
  · rw [n]; exact ⟨by decide, by decide⟩
/-- Can it be compared with itself? -/
theorem fk_self {v : Vl} (h : FedV v) : (fk v).isSome = (!(v.k == 2) || (ford v.x v.x == some .eq)) := by
  rcases fed_k h with a | a | ⟨a, _⟩ | a
  · simp [fk, a]
  · cases ka : keyF v.x with
    | none => simp [fk, a, ka, ford_none (x := v.x) (y := v.x) (.inl ka)]
    | some p => simp [fk, a, ka, ford_some ka ka, cmp_eq]
  · simp [fk, a]
  · simp [fk, a]
end Go.Proofs.Ytjoniicebjpdaaa

/-! What value.Same, value.Right and the document's own tell. -/
namespace Go.Proofs.Ytjoniicebjpdaaa
open Go.Ab

section
variable {X : XTab}

theorem value_Same (hX : OnlyKnown X) (v w : Vl) (h : Heap) : Tells (fun q => acallX Try.prog X q F_value_Same [.agg (vlC v), .agg (vlC w)] h) fun r h' => r = .bool (sameV v w) ∧ Ext [] h h' := by
  refine R_value_Same _ _ (hX _ _ rfl) ?_
  refine Tells.prot fun Q' hQ => ?_
  have u4 := Try.underlying4
  unfold S_value_Same
  try simp
  refine Tells.box rfl rfl fun h1 ba oa x1 l1 => ?_
  try simp
  refine Tells.box rfl rfl fun h2 bb ob x2 l2 => ?_
  have oa2 := oa.e x2
  have x := x1.trans x2
  by_cases c1 : v.k = w.k
  · have c1' : (v.k == w.k) = true := by simp [c1]
    by_cases c2 : v.n = w.n
    · have c2' : (v.n == w.n) = true := by simp [c2]
      cases c3 : (v.s.toList == w.s.toList) with
      | true =>
        by_cases c4 : v.b = w.b
        · have c4' : (v.b == w.b) = true := by simp [c4]
          simp [oa2.1, ob.1, vlC, c1, c2, c3, c4, u4]
          refine Tells.bind (float_Same hX v.x w.x h2) ?_
          rintro _ h3 ⟨rfl, rfl⟩
          try simp
          exact Tells.ok (hQ _ _ ⟨by simp [sameV, c1', c2', c3, c4'], x⟩)
        · have c4' : (v.b == w.b) = false := beq_eq_false_iff_ne.2 c4
          simp [oa2.1, ob.1, vlC, c1, c2, c3, c4', u4]
          exact Tells.ok (hQ _ _ ⟨by simp [sameV, c1', c2', c3, c4'], x⟩)
      | false =>
        simp [oa2.1, ob.1, vlC, c1, c2, c3]
        exact Tells.ok (hQ _ _ ⟨by simp [sameV, c1', c2', c3], x⟩)
    · have c2' : (v.n == w.n) = false := beq_eq_false_iff_ne.2 c2
      simp [oa2.1, ob.1, vlC, c1, c2']
      exact Tells.ok (hQ _ _ ⟨by simp [sameV, c1', c2'], x⟩)
  · have c1' : (v.k == w.k) = false := beq_eq_false_iff_ne.2 c1
    simp [oa2.1, ob.1, vlC, c1']
    exact Tells.ok (hQ _ _ ⟨by simp [sameV, c1'], x⟩)

theorem ref_SameValue (hX : OnlyKnown X) (v w : Vl) (h : Heap) : Tells (fun q => acallX Try.prog X q F_precentorref1_SameValue [.agg (vlC v), .agg (vlC w)] h) fun r h' => r = .bool (sameV v w) ∧ Ext [] h h' := by
  refine R_precentorref1_SameValue _ _ (hX _ _ rfl) ?_
  refine Tells.prot fun Q' hQ => ?_
  have u4 := Try.underlying4
  unfold S_precentorref1_SameValue
  try simp
  refine Tells.box rfl rfl fun h1 ba oa x1 l1 => ?_
  try simp
  refine Tells.box rfl rfl fun h2 bb ob x2 l2 => ?_
  have oa2 := oa.e x2
  have x := x1.trans x2
  by_cases c1 : v.k = w.k
  · have c1' : (v.k == w.k) = true := by simp [c1]
    by_cases c2 : v.n = w.n
    · have c2' : (v.n == w.n) = true := by simp [c2]
      simp [oa2.1, ob.1, vlC, c1, c2]
      refine Tells.cbE (ref_Bits hX v.x h2) ?_
      rintro _ h2 ⟨rfl, rfl⟩
      simp [oa2.1, ob.1, vlC]
      refine Tells.cbE (ref_Bits hX w.x h2) ?_
      rintro _ h2 ⟨rfl, rfl⟩
      by_cases c5 : bitsF v.x = bitsF w.x
      · have c5' : (bitsF v.x == bitsF w.x) = true := by simp [c5]
        cases c3 : (v.s.toList == w.s.toList) with
        | true =>
          by_cases c4 : v.b = w.b
          · have c4' : (v.b == w.b) = true := by simp [c4]
            simp [oa2.1, ob.1, vlC, c5, c3, c4, u4]
            exact Tells.ok (hQ _ _ ⟨by simp [sameV, c1', c2', c3, c4', c5'], x⟩)
          · have c4' : (v.b == w.b) = false := beq_eq_false_iff_ne.2 c4
            simp [oa2.1, ob.1, vlC, c5, c3, c4', u4]
            exact Tells.ok (hQ _ _ ⟨by simp [sameV, c1', c2', c3, c4', c5'], x⟩)
        | false =>
          simp [oa2.1, ob.1, vlC, c5, c3]
          exact Tells.ok (hQ _ _ ⟨by simp [sameV, c1', c2', c3], x⟩)
      · have c5' : (bitsF v.x == bitsF w.x) = false := beq_eq_false_iff_ne.2 c5
        simp [oa2.1, ob.1, vlC, c5']
        exact Tells.ok (hQ _ _ ⟨by simp [sameV, c1', c2', c5'], x⟩)
    · have c2' : (v.n == w.n) = false := beq_eq_false_iff_ne.2 c2
      simp [oa2.1, ob.1, vlC, c1, c2']
      exact Tells.ok (hQ _ _ ⟨by simp [sameV, c1', c2'], x⟩)
  · have c1' : (v.k == w.k) = false := beq_eq_false_iff_ne.2 c1
    simp [oa2.1, ob.1, vlC, c1']
    exact Tells.ok (hQ _ _ ⟨by simp [sameV, c1'], x⟩)

theorem value_RightG (hX : OnlyKnown X) (v : Vl) (h : Heap) : Tells (fun q => acallX Try.prog X q F_value_Right [.agg (vlC v)] h) fun r h' => r = .bool (rightV v) ∧ Ext [] h h' := by
  refine R_value_Right _ (hX _ _ rfl) ?_
  refine Tells.prot fun Q' hQ => ?_
  unfold S_value_Right
  try simp
  refine Tells.box rfl rfl fun h1 bv ov x1 l1 => ?_
  try simp
  have ov : Ob h1 bv (vlC v) := ov
  simp [ov.1, vlC]
  refine Tells.newSt (ds := vlC v) (by rfl) (by rfl) (by rfl) (by rfl) fun h2 br or x2 l2 => ?_
  have ov2 := ov.e x2
  try simp
  refine Tells.st1 or (by rfl) (by rfl) (by simp [vlC]) fun h3 or3 x3 => ?_
  have hne : bv ≠ br := by have := ov.lt; omega
  have ov3 := ov2.ext x3 (by simpa using hne)
  have x03 : Ext [] h h3 := (x1.trans x2).then x3 fun z hz => .inr (by have := x1.next; simp at hz; omega)
  have fin : ∀ (g : Heap) (t : T) (n : Int) (f : Nat) (s : ByteArray) (b : Bool), t 1 = .ptr bv 0 → t 3 = .ptr br 0 → Ob g bv (vlC v) → Ob g br [I 0, I n, .flt .f64 f, .str s, .bool b] → Ext [] h g → rightV v = ((n == 0 && (ford f 0 == some .eq && (s.toList == (bs []).toList && !b))) && decide (v.s.size ≤ 12)) →
      Tells (fun m => J_value_Right_0 Try.prog (acallX Try.prog X m) m (retK Try.prog [.tmp 2]) t g) Q' := by
    intro g t n f s b t1 t3 og rg xg hr
    cases hE : (n == 0 && (ford f 0 == some .eq && (s.toList == (bs []).toList && !b))) with
    | false =>
      simp [J_value_Right_0, t1, t3, rg.1, bldR, fillR, zero24, hE]
      exact Tells.ok (hQ _ _ ⟨by rw [hr, hE]; rfl, xg⟩)
    | true =>
      simp [J_value_Right_0, t1, t3, rg.1, bldR, fillR, zero24, hE, og.1, lenS, vlC]
      exact Tells.ok (hQ _ _ ⟨by rw [hr, hE]; simp; omega, xg⟩)
  have xs : ∀ {g : Heap}, Ext [br] h3 g → Ext [] h g := fun {g} e => x03.then e fun z hz => .inr (by have := x1.next; simp at hz; omega)
  have f00 : (ford 0 0 == some .eq) = true := by decide +kernel
  have hs : (v.s.toList == (bs []).toList) = s0B v := rfl
  have hx : (ford v.x 0 == some .eq) = x0B v := rfl
  by_cases k1 : v.k = 1
  · simp [ov3.1, vlC, k1]
    refine Tells.st1 or3 (by rfl) (by rfl) (by simp [vlC]) fun h4 or4 x4 => ?_
    have ov4 := ov3.ext x4 (by simpa using hne)
    try simp
    refine fin h4 _ 0 v.x v.s v.b (by simp) (by simp) ov4 or4 (xs x4) ?_
    unfold rightV
    rw [if_pos k1, hx, hs]
    cases h : s0B v
    · simp
    · simp [s0_size h]
  have b1 : (v.k == 1) = false := beq_eq_false_iff_ne.2 k1
  by_cases k2 : v.k = 2
  · simp [ov3.1, vlC, k2]
    refine Tells.st1 or3 (by rfl) (by rfl) (by simp [vlC]) fun h4 or4 x4 => ?_
    have ov4 := ov3.ext x4 (by simpa using hne)
    try simp
    refine fin h4 _ v.n 0 v.s v.b (by simp) (by simp) ov4 or4 (xs x4) ?_
    unfold rightV
    rw [if_neg k1, if_pos k2, f00, hs]
    cases h : s0B v
    · simp
    · simp [s0_size h]
  have b2 : (v.k == 2) = false := beq_eq_false_iff_ne.2 k2
  by_cases k3 : v.k = 3
  · simp [ov3.1, vlC, k3]
    refine Tells.st1 or3 (by rfl) (by rfl) (by simp [vlC]) fun h4 or4 x4 => ?_
    have ov4 := ov3.ext x4 (by simpa using hne)
    try simp
    refine fin h4 _ v.n v.x (bs []) v.b (by simp) (by simp) ov4 or4 (xs x4) ?_
    unfold rightV
    rw [if_neg k1, if_neg k2, if_pos k3, hx]
    simp [Bool.and_assoc]
  have b3 : (v.k == 3) = false := beq_eq_false_iff_ne.2 k3
  by_cases k4 : v.k = 4
  · simp [ov3.1, vlC, k4]
    refine Tells.st1 or3 (by rfl) (by rfl) (by simp [vlC]) fun h4 or4 x4 => ?_
    have ov4 := ov3.ext x4 (by simpa using hne)
    try simp
    refine fin h4 _ v.n v.x v.s false (by simp) (by simp) ov4 or4 (xs x4) ?_
    unfold rightV
    rw [if_neg k1, if_neg k2, if_neg k3, if_pos k4, hx, hs]
    cases h : s0B v
    · simp
    · simp [s0_size h]
  have b4 : (v.k == 4) = false := beq_eq_false_iff_ne.2 k4
  simp [ov3.1, vlC, b1, b2, b3, b4]
  exact Tells.ok (hQ _ _ ⟨by unfold rightV; rw [if_neg k1, if_neg k2, if_neg k3, if_neg k4], x03⟩)

theorem ref_RightValue (hX : OnlyKnown X) (v : Vl) (h : Heap) : Tells (fun q => acallX Try.prog X q F_precentorref1_RightValue [.agg (vlC v)] h) fun r h' => r = .bool (rightV v) ∧ Ext [] h h' := by
  refine R_precentorref1_RightValue _ (hX _ _ rfl) ?_
  refine Tells.prot fun Q' hQ => ?_
  have u4 := Try.underlying4
  unfold S_precentorref1_RightValue
  try simp
  refine Tells.box rfl rfl fun h1 bv ov x1 l1 => ?_
  try simp
  have ov : Ob h1 bv (vlC v) := ov
  have hs : (v.s.toList == (bs []).toList) = s0B v := rfl
  have hx : (ford v.x 0 == some .eq) = x0B v := rfl
  unfold rightV at hQ
  by_cases k1 : v.k = 1
  · rw [if_pos k1] at hQ
    simp only [ov.1, vlC, List.getElem?_cons_zero, List.getElem?_cons_succ]
    cases c1 : x0B v <;> cases c2 : s0B v <;> cases c3 : v.b <;> simp [ov.1, vlC, k1, hs, hx, c1, c2, c3] <;> exact Tells.ok (hQ _ _ ⟨by simp [c1, c2, c3], x1⟩)
  rw [if_neg k1] at hQ
  have b1 : (v.k == 1) = false := beq_eq_false_iff_ne.2 k1
  by_cases k2 : v.k = 2
  · rw [if_pos k2] at hQ
    cases c1 : (v.n == 0) <;> cases c2 : s0B v <;> cases c3 : v.b <;> simp [ov.1, vlC, k2, hs, hx, c1, c2, c3] <;> exact Tells.ok (hQ _ _ ⟨by simp [c1, c2, c3], x1⟩)
  rw [if_neg k2] at hQ
  have b2 : (v.k == 2) = false := beq_eq_false_iff_ne.2 k2
  by_cases k3 : v.k = 3
  · rw [if_pos k3] at hQ
    cases c1 : (v.n == 0) <;> cases c2 : x0B v <;> cases c3 : v.b <;> simp [ov.1, vlC, k3, hs, hx, c1, c2, c3, lenS] <;> exact Tells.ok (hQ _ _ ⟨by simp [c1, c2, c3] <;> omega, x1⟩)
  rw [if_neg k3] at hQ
  have b3 : (v.k == 3) = false := beq_eq_false_iff_ne.2 k3
  by_cases k4 : v.k = 4
  · rw [if_pos k4] at hQ
    cases c1 : (v.n == 0) <;> cases c2 : x0B v <;> cases c3 : s0B v <;> simp [ov.1, vlC, k4, hs, hx, c1, c2, c3] <;> exact Tells.ok (hQ _ _ ⟨by simp [c1, c2, c3], x1⟩)
  rw [if_neg k4] at hQ
  have b4 : (v.k == 4) = false := beq_eq_false_iff_ne.2 k4
  simp [ov.1, vlC, b1, b2, b3, b4, J_precentorref1_RightValue_0]
  exact Tells.ok (hQ _ _ ⟨rfl, x1⟩)

end
end Go.Proofs.Ytjoniicebjpdaaa

/-! What value's Cmp, Is and the document's own tell. -/
set_option maxRecDepth 20000
namespace Go.Proofs.Ytjoniicebjpdaaa
open Go.Ab

theorem un_neg (z : Int) : aUn Try.prog .neg (.int .i64 z) = some (I (IntKind.i64.wrap (0 - z))) := by kernel_rfl
theorem five (k : Int) : k = 1 ∨ k = 2 ∨ k = 3 ∨ k = 4 ∨ ((k == 1) = false ∧ (k == 2) = false ∧ (k == 3) = false ∧ (k == 4) = false) := by
  by_cases h1 : k = 1
  · exact .inl h1
  by_cases h2 : k = 2
  · exact .inr (.inl h2)
  by_cases h3 : k = 3
  · exact .inr (.inr (.inl h3))
  by_cases h4 : k = 4
  · exact .inr (.inr (.inr (.inl h4)))
  exact .inr (.inr (.inr (.inr ⟨beq_eq_false_iff_ne.2 h1, beq_eq_false_iff_ne.2 h2, beq_eq_false_iff_ne.2 h3, beq_eq_false_iff_ne.2 h4⟩)))
theorem ord_sgI (p q : Int) : ordB (decide (p < q)) (decide (q < p)) = sgI p q := by
  unfold ordB sgI
  by_cases h1 : p < q <;> by_cases h2 : q < p <;> simp [h1, h2]

section
variable {X : XTab}
theorem value_order (hX : OnlyKnown X) (b a : Bool) (h : Heap) : Tells (fun q => acallX Try.prog X q F_value_order [.bool b, .bool a] h) fun r h' => r = I (ordB b a) ∧ h' = h := by
  refine R_value_order _ _ (hX _ _ rfl) ?_
  unfold S_value_order
  cases b
  · cases a
    · simp [J_value_order_0, J_value_order_1]
      exact Tells.ok ⟨rfl, rfl⟩
    · simp [J_value_order_0]
      exact Tells.ok ⟨rfl, rfl⟩
  · simp
    exact Tells.ok ⟨rfl, rfl⟩

theorem value_Cmp (hX : OnlyKnown X) (v u : Vl) (hv : In64 v.n) (hu : In64 u.n) (h : Heap) : Tells (fun q => acallX Try.prog X q F_value_Cmp [.agg (vlC v), .agg (vlC u)] h) fun r h' => r = .tup [I (cmpV v u).1, .bool (cmpV v u).2] ∧ Ext [] h h' := by
  refine R_value_Cmp _ _ (hX _ _ rfl) ?_
  refine Tells.prot fun Q' hQ => ?_
  have u4 := Try.underlying4
  obtain ⟨ka, na, xa, sa, ba⟩ := v
  obtain ⟨kb, nb, xb, sb, bb⟩ := u
  unfold S_value_Cmp
  try simp
  refine Tells.box rfl rfl fun h1 bA oA x1 l1 => ?_
  try simp
  refine Tells.box rfl rfl fun h2 bB oB x2 l2 => ?_
  have oA2 := oA.e x2
  have x := x1.trans x2
  have gA : h2.get bA = some [I ka, I na, .flt .f64 xa, .str sa, .bool ba] := oA2.1
  have gB : h2.get bB = some [I kb, I nb, .flt .f64 xb, .str sb, .bool bb] := oB.1
  simp only at hv hu
  rcases five ka with rfl | rfl | rfl | rfl | ⟨ka1, ka2, ka3, ka4⟩ <;> rcases five kb with rfl | rfl | rfl | rfl | ⟨kb1, kb2, kb3, kb4⟩
  · simp [gA, gB]
    refine Tells.bind (value_order hX _ _ h2) ?_
    rintro _ h3 ⟨rfl, rfl⟩
    try simp
    exact Tells.ok (hQ _ _ ⟨by rw [ord_sgI]; simp [cmpV], x⟩)
  · simp [gA, gB]
    refine Tells.bind (float_CmpInt hX na hv xb h2) ?_
    rintro _ h3 ⟨rfl, rfl⟩
    try simp
    exact Tells.ok (hQ _ _ ⟨by simp [cmpV], x⟩)
  · simp [gA, gB, J_value_Cmp_0]
    exact Tells.ok (hQ _ _ ⟨by simp [cmpV], x⟩)
  · simp [gA, gB, J_value_Cmp_0]
    exact Tells.ok (hQ _ _ ⟨by simp [cmpV], x⟩)
  · simp [gA, gB, kb1, kb2, kb3, kb4, J_value_Cmp_0]
    exact Tells.ok (hQ _ _ ⟨by simp [cmpV, show ¬ kb = 1 from by simpa using kb1, show ¬ kb = 2 from by simpa using kb2, show ¬ kb = 3 from by simpa using kb3, show ¬ kb = 4 from by simpa using kb4], x⟩)
  · simp [gA, gB]
    refine Tells.bind (float_CmpInt hX nb hu xa h2) ?_
    rintro _ h3 ⟨rfl, rfl⟩
    have wr : IntKind.i64.wrap (0 - (cmpIF nb xa).1) = 0 - (cmpIF nb xa).1 := by
      have := cmpIF_in nb xa
      exact wrap_id (by omega) (by omega)
    rw [Int.zero_sub] at wr
    simp [un_neg, wr]
    exact Tells.ok (hQ _ _ ⟨by simp [cmpV], x⟩)
  · simp [gA, gB]
    refine Tells.bind (float_Cmp hX xa xb h2) ?_
    rintro _ h3 ⟨rfl, rfl⟩
    try simp
    exact Tells.ok (hQ _ _ ⟨by simp [cmpV], x⟩)
  · simp [gA, gB, J_value_Cmp_0]
    exact Tells.ok (hQ _ _ ⟨by simp [cmpV], x⟩)
  · simp [gA, gB, J_value_Cmp_0]
    exact Tells.ok (hQ _ _ ⟨by simp [cmpV], x⟩)
  · simp [gA, gB, kb1, kb2, kb3, kb4, J_value_Cmp_0]
    exact Tells.ok (hQ _ _ ⟨by simp [cmpV, show ¬ kb = 1 from by simpa using kb1, show ¬ kb = 2 from by simpa using kb2, show ¬ kb = 3 from by simpa using kb3, show ¬ kb = 4 from by simpa using kb4], x⟩)
  · simp [gA, gB, J_value_Cmp_0]
    exact Tells.ok (hQ _ _ ⟨by simp [cmpV], x⟩)
  · simp [gA, gB, J_value_Cmp_0]
    exact Tells.ok (hQ _ _ ⟨by simp [cmpV], x⟩)
  · simp [gA, gB]
    refine Tells.bind (value_order hX _ _ h2) ?_
    rintro _ h3 ⟨rfl, rfl⟩
    try simp
    exact Tells.ok (hQ _ _ ⟨by simp [cmpV, sgT], x⟩)
  · simp [gA, gB, J_value_Cmp_0]
    exact Tells.ok (hQ _ _ ⟨by simp [cmpV], x⟩)
  · simp [gA, gB, kb1, kb2, kb3, kb4, J_value_Cmp_0]
    exact Tells.ok (hQ _ _ ⟨by simp [cmpV, show ¬ kb = 1 from by simpa using kb1, show ¬ kb = 2 from by simpa using kb2, show ¬ kb = 3 from by simpa using kb3, show ¬ kb = 4 from by simpa using kb4], x⟩)
  · simp [gA, gB, J_value_Cmp_0]
    exact Tells.ok (hQ _ _ ⟨by simp [cmpV], x⟩)
  · simp [gA, gB, J_value_Cmp_0]
    exact Tells.ok (hQ _ _ ⟨by simp [cmpV], x⟩)
  · simp [gA, gB, J_value_Cmp_0]
    exact Tells.ok (hQ _ _ ⟨by simp [cmpV], x⟩)
  · cases ba <;> cases bb
    all_goals
      simp [gA, gB]
      refine Tells.bind (value_order hX _ _ h2) ?_
      rintro _ h3 ⟨rfl, rfl⟩
      try simp
      exact Tells.ok (hQ _ _ ⟨by simp [cmpV], x⟩)
  · simp [gA, gB, kb1, kb2, kb3, kb4, J_value_Cmp_0]
    exact Tells.ok (hQ _ _ ⟨by simp [cmpV, show ¬ kb = 1 from by simpa using kb1, show ¬ kb = 2 from by simpa using kb2, show ¬ kb = 3 from by simpa using kb3, show ¬ kb = 4 from by simpa using kb4], x⟩)
  · simp [gA, gB, ka1, ka2, ka3, ka4, J_value_Cmp_0]
    exact Tells.ok (hQ _ _ ⟨by simp [cmpV, show ¬ ka = 1 from by simpa using ka1, show ¬ ka = 2 from by simpa using ka2, show ¬ ka = 3 from by simpa using ka3, show ¬ ka = 4 from by simpa using ka4], x⟩)
  · simp [gA, gB, ka1, ka2, ka3, ka4, J_value_Cmp_0]
    exact Tells.ok (hQ _ _ ⟨by simp [cmpV, show ¬ ka = 1 from by simpa using ka1, show ¬ ka = 2 from by simpa using ka2, show ¬ ka = 3 from by simpa using ka3, show ¬ ka = 4 from by simpa using ka4], x⟩)
  · simp [gA, gB, ka1, ka2, ka3, ka4, J_value_Cmp_0]
    exact Tells.ok (hQ _ _ ⟨by simp [cmpV, show ¬ ka = 1 from by simpa using ka1, show ¬ ka = 2 from by simpa using ka2, show ¬ ka = 3 from by simpa using ka3, show ¬ ka = 4 from by simpa using ka4], x⟩)
  · simp [gA, gB, ka1, ka2, ka3, ka4, J_value_Cmp_0]
    exact Tells.ok (hQ _ _ ⟨by simp [cmpV, show ¬ ka = 1 from by simpa using ka1, show ¬ ka = 2 from by simpa using ka2, show ¬ ka = 3 from by simpa using ka3, show ¬ ka = 4 from by simpa using ka4], x⟩)
  · simp [gA, gB, ka1, ka2, ka3, ka4, kb1, kb2, kb3, kb4, J_value_Cmp_0]
    exact Tells.ok (hQ _ _ ⟨by simp [cmpV, show ¬ ka = 1 from by simpa using ka1, show ¬ ka = 2 from by simpa using ka2, show ¬ ka = 3 from by simpa using ka3, show ¬ ka = 4 from by simpa using ka4, show ¬ kb = 1 from by simpa using kb1, show ¬ kb = 2 from by simpa using kb2, show ¬ kb = 3 from by simpa using kb3, show ¬ kb = 4 from by simpa using kb4], x⟩)
theorem ref_CmpValue (hX : OnlyKnown X) (v u : Vl) (hv : In64 v.n) (hu : In64 u.n) (h : Heap) : Tells (fun q => acallX Try.prog X q F_precentorref1_CmpValue [.agg (vlC v), .agg (vlC u)] h) fun r h' => r = .tup [I (cmpV v u).1, .bool (cmpV v u).2] ∧ Ext [] h h' := by
  refine R_precentorref1_CmpValue _ _ (hX _ _ rfl) ?_
  refine Tells.prot fun Q' hQ => ?_
  have u4 := Try.underlying4
  obtain ⟨ka, na, xa, sa, ba⟩ := v
  obtain ⟨kb, nb, xb, sb, bb⟩ := u
  unfold S_precentorref1_CmpValue
  try simp
  refine Tells.box rfl rfl fun h1 bA oA x1 l1 => ?_
  try simp
  refine Tells.box rfl rfl fun h2 bB oB x2 l2 => ?_
  have oA2 := oA.e x2
  have x := x1.trans x2
  have gA : h2.get bA = some [I ka, I na, .flt .f64 xa, .str sa, .bool ba] := oA2.1
  have gB : h2.get bB = some [I kb, I nb, .flt .f64 xb, .str sb, .bool bb] := oB.1
  simp only at hv hu
  rcases five ka with rfl | rfl | rfl | rfl | ⟨ka1, ka2, ka3, ka4⟩ <;> rcases five kb with rfl | rfl | rfl | rfl | ⟨kb1, kb2, kb3, kb4⟩
  · rcases sgI_three na nb with ⟨e, c⟩ | ⟨e, c⟩ | ⟨e, c⟩
    · simp [gA, gB, c]
      exact Tells.ok (hQ _ _ ⟨by simp [cmpV, e], x⟩)
    · simp [gA, gB, c, J_precentorref1_CmpValue_1, J_precentorref1_CmpValue_2]
      exact Tells.ok (hQ _ _ ⟨by simp [cmpV, c, sgI_eq], x⟩)
    · simp [gA, gB, c, show ¬ na < nb by omega, J_precentorref1_CmpValue_1]
      exact Tells.ok (hQ _ _ ⟨by simp [cmpV, e], x⟩)
  · simp [gA, gB]
    refine Tells.bind (ref_CmpInt hX na hv xb h2) ?_
    rintro _ h3 ⟨rfl, rfl⟩
    try simp
    exact Tells.ok (hQ _ _ ⟨by simp [cmpV], x⟩)
  · simp [gA, gB, J_precentorref1_CmpValue_0]
    exact Tells.ok (hQ _ _ ⟨by simp [cmpV], x⟩)
  · simp [gA, gB, J_precentorref1_CmpValue_0]
    exact Tells.ok (hQ _ _ ⟨by simp [cmpV], x⟩)
  · simp [gA, gB, kb1, kb2, kb3, kb4, J_precentorref1_CmpValue_0]
    exact Tells.ok (hQ _ _ ⟨by simp [cmpV, show ¬ kb = 1 from by simpa using kb1, show ¬ kb = 2 from by simpa using kb2, show ¬ kb = 3 from by simpa using kb3, show ¬ kb = 4 from by simpa using kb4], x⟩)
  · simp [gA, gB]
    refine Tells.bind (ref_CmpInt hX nb hu xa h2) ?_
    rintro _ h3 ⟨rfl, rfl⟩
    have wr : IntKind.i64.wrap (0 - (cmpIF nb xa).1) = 0 - (cmpIF nb xa).1 := by
      have := cmpIF_in nb xa
      exact wrap_id (by omega) (by omega)
    rw [Int.zero_sub] at wr
    simp [un_neg, wr]
    exact Tells.ok (hQ _ _ ⟨by simp [cmpV], x⟩)
  · simp [gA, gB]
    refine Tells.bind (ref_Cmp hX xa xb h2) ?_
    rintro _ h3 ⟨rfl, rfl⟩
    try simp
    exact Tells.ok (hQ _ _ ⟨by simp [cmpV], x⟩)
  · simp [gA, gB, J_precentorref1_CmpValue_0]
    exact Tells.ok (hQ _ _ ⟨by simp [cmpV], x⟩)
  · simp [gA, gB, J_precentorref1_CmpValue_0]
    exact Tells.ok (hQ _ _ ⟨by simp [cmpV], x⟩)
  · simp [gA, gB, kb1, kb2, kb3, kb4, J_precentorref1_CmpValue_0]
    exact Tells.ok (hQ _ _ ⟨by simp [cmpV, show ¬ kb = 1 from by simpa using kb1, show ¬ kb = 2 from by simpa using kb2, show ¬ kb = 3 from by simpa using kb3, show ¬ kb = 4 from by simpa using kb4], x⟩)
  · simp [gA, gB, J_precentorref1_CmpValue_0]
    exact Tells.ok (hQ _ _ ⟨by simp [cmpV], x⟩)
  · simp [gA, gB, J_precentorref1_CmpValue_0]
    exact Tells.ok (hQ _ _ ⟨by simp [cmpV], x⟩)
  · cases c1 : Op.bytesLess sa.toList sb.toList
    · cases c2 : (sa.toList == sb.toList)
      · simp [gA, gB, c1, c2, J_precentorref1_CmpValue_3]
        exact Tells.ok (hQ _ _ ⟨by simp [cmpV, sgT, ordB, c1, c2], x⟩)
      · simp [gA, gB, c1, c2, J_precentorref1_CmpValue_3, J_precentorref1_CmpValue_4]
        exact Tells.ok (hQ _ _ ⟨by simp [cmpV, sgT, ordB, c1, c2], x⟩)
    · simp [gA, gB, c1]
      exact Tells.ok (hQ _ _ ⟨by simp [cmpV, sgT, ordB, c1], x⟩)
  · simp [gA, gB, J_precentorref1_CmpValue_0]
    exact Tells.ok (hQ _ _ ⟨by simp [cmpV], x⟩)
  · simp [gA, gB, kb1, kb2, kb3, kb4, J_precentorref1_CmpValue_0]
    exact Tells.ok (hQ _ _ ⟨by simp [cmpV, show ¬ kb = 1 from by simpa using kb1, show ¬ kb = 2 from by simpa using kb2, show ¬ kb = 3 from by simpa using kb3, show ¬ kb = 4 from by simpa using kb4], x⟩)
  · simp [gA, gB, J_precentorref1_CmpValue_0]
    exact Tells.ok (hQ _ _ ⟨by simp [cmpV], x⟩)
  · simp [gA, gB, J_precentorref1_CmpValue_0]
    exact Tells.ok (hQ _ _ ⟨by simp [cmpV], x⟩)
  · simp [gA, gB, J_precentorref1_CmpValue_0]
    exact Tells.ok (hQ _ _ ⟨by simp [cmpV], x⟩)
  · cases ba <;> cases bb
    all_goals
      simp [gA, gB, u4, J_precentorref1_CmpValue_5, J_precentorref1_CmpValue_6]
      exact Tells.ok (hQ _ _ ⟨by simp [cmpV, ordB], x⟩)
  · simp [gA, gB, kb1, kb2, kb3, kb4, J_precentorref1_CmpValue_0]
    exact Tells.ok (hQ _ _ ⟨by simp [cmpV, show ¬ kb = 1 from by simpa using kb1, show ¬ kb = 2 from by simpa using kb2, show ¬ kb = 3 from by simpa using kb3, show ¬ kb = 4 from by simpa using kb4], x⟩)
  · simp [gA, gB, ka1, ka2, ka3, ka4, J_precentorref1_CmpValue_0]
    exact Tells.ok (hQ _ _ ⟨by simp [cmpV, show ¬ ka = 1 from by simpa using ka1, show ¬ ka = 2 from by simpa using ka2, show ¬ ka = 3 from by simpa using ka3, show ¬ ka = 4 from by simpa using ka4], x⟩)
  · simp [gA, gB, ka1, ka2, ka3, ka4, J_precentorref1_CmpValue_0]
    exact Tells.ok (hQ _ _ ⟨by simp [cmpV, show ¬ ka = 1 from by simpa using ka1, show ¬ ka = 2 from by simpa using ka2, show ¬ ka = 3 from by simpa using ka3, show ¬ ka = 4 from by simpa using ka4], x⟩)
  · simp [gA, gB, ka1, ka2, ka3, ka4, J_precentorref1_CmpValue_0]
    exact Tells.ok (hQ _ _ ⟨by simp [cmpV, show ¬ ka = 1 from by simpa using ka1, show ¬ ka = 2 from by simpa using ka2, show ¬ ka = 3 from by simpa using ka3, show ¬ ka = 4 from by simpa using ka4], x⟩)
  · simp [gA, gB, ka1, ka2, ka3, ka4, J_precentorref1_CmpValue_0]
    exact Tells.ok (hQ _ _ ⟨by simp [cmpV, show ¬ ka = 1 from by simpa using ka1, show ¬ ka = 2 from by simpa using ka2, show ¬ ka = 3 from by simpa using ka3, show ¬ ka = 4 from by simpa using ka4], x⟩)
  · simp [gA, gB, ka1, ka2, ka3, ka4, kb1, kb2, kb3, kb4, J_precentorref1_CmpValue_0]
    exact Tells.ok (hQ _ _ ⟨by simp [cmpV, show ¬ ka = 1 from by simpa using ka1, show ¬ ka = 2 from by simpa using ka2, show ¬ ka = 3 from by simpa using ka3, show ¬ ka = 4 from by simpa using ka4, show ¬ kb = 1 from by simpa using kb1, show ¬ kb = 2 from by simpa using kb2, show ¬ kb = 3 from by simpa using kb3, show ¬ kb = 4 from by simpa using kb4], x⟩)
theorem value_Is (hX : OnlyKnown X) (v u : Vl) (hv : In64 v.n) (hu : In64 u.n) (h : Heap) : Tells (fun q => acallX Try.prog X q F_value_Is [.agg (vlC v), .agg (vlC u)] h) fun r h' => r = .bool ((cmpV v u).2 && (cmpV v u).1 == 0) ∧ Ext [] h h' := by
  refine R_value_Is _ _ (hX _ _ rfl) ?_
  refine Tells.prot fun Q' hQ => ?_
  unfold S_value_Is
  try simp
  refine Tells.box rfl rfl fun h1 bA oA x1 l1 => ?_
  try simp
  refine Tells.box rfl rfl fun h2 bB oB x2 l2 => ?_
  have oA2 := oA.e x2
  have x := x1.trans x2
  have gA : h2.get bA = some (vlC v) := oA2.1
  have gB : h2.get bB = some (vlC u) := oB.1
  have l5 : ∀ v : Vl, (vlC v).length = 5 := fun _ => rfl
  simp [gA, gB, l5, List.take_of_length_le (Nat.le_of_eq (l5 _))]
  refine Tells.bind (value_Cmp hX v u hv hu h2) ?_
  rintro _ h3 ⟨rfl, x3⟩
  cases e : (cmpV v u).2 with
  | true =>
    simp
    exact Tells.ok (hQ _ _ ⟨by simp [e], x.trans x3⟩)
  | false =>
    simp
    exact Tells.ok (hQ _ _ ⟨by simp [e], x.trans x3⟩)
theorem ref_Is (hX : OnlyKnown X) (v u : Vl) (hv : In64 v.n) (hu : In64 u.n) (h : Heap) : Tells (fun q => acallX Try.prog X q F_precentorref1_Is [.agg (vlC v), .agg (vlC u)] h) fun r h' => r = .bool ((cmpV v u).2 && (cmpV v u).1 == 0) ∧ Ext [] h h' := by
  refine R_precentorref1_Is _ _ (hX _ _ rfl) ?_
  refine Tells.prot fun Q' hQ => ?_
  unfold S_precentorref1_Is
  try simp
  refine Tells.box rfl rfl fun h1 bA oA x1 l1 => ?_
  try simp
  refine Tells.box rfl rfl fun h2 bB oB x2 l2 => ?_
  have oA2 := oA.e x2
  have x := x1.trans x2
  have gA : h2.get bA = some (vlC v) := oA2.1
  have gB : h2.get bB = some (vlC u) := oB.1
  have l5 : ∀ v : Vl, (vlC v).length = 5 := fun _ => rfl
  simp [gA, gB, l5, List.take_of_length_le (Nat.le_of_eq (l5 _))]
  refine Tells.bind (ref_CmpValue hX v u hv hu h2) ?_
  rintro _ h3 ⟨rfl, x3⟩
  cases e : (cmpV v u).2 with
  | true =>
    simp
    exact Tells.ok (hQ _ _ ⟨by simp [e], x.trans x3⟩)
  | false =>
    simp
    exact Tells.ok (hQ _ _ ⟨by simp [e], x.trans x3⟩)
end
end Go.Proofs.Ytjoniicebjpdaaa

/-! The package's closed example; pointers beside nil. -/
namespace Go.Proofs.Ytjoniicebjpdaaa
open Go.Ab

theorem known_X {X : XTab} {F : FuncId} (hk : X F [] = some (.bool true)) (h : Heap) : Tells (fun m => acallX Try.prog X m F [] h) fun a h' => a = .bool true ∧ h' = h :=
  ⟨.bool true, h, ⟨rfl, rfl⟩, 1, fun m hm => by
    obtain ⟨k, rfl⟩ : ∃ k, m = k + 1 := ⟨m - 1, by omega⟩
    simp only [acallX, hk]⟩
theorem ptr_nil {t e : TypeId} (hu : Try.prog.underlying t = some (.pointer e)) (o1 o2 : Operand) (b p : Nat) : aBin Try.prog .eql t o1 o2 (.ptr b p) .nilp = some (.bool false) := by
  simp only [aBin, AVal.toV, aNilCmp, hu, nilRes]
theorem ptr_nil' {t e : TypeId} (hu : Try.prog.underlying t = some (.pointer e)) (o1 o2 : Operand) (b p : Nat) : aBin Try.prog .neq t o1 o2 (.ptr b p) .nilp = some (.bool true) := by
  simp only [aBin, AVal.toV, aNilCmp, hu, nilRes]
end Go.Proofs.Ytjoniicebjpdaaa

/-! Law ValueOrder: the walk. -/
set_option maxRecDepth 20000
namespace Go.Proofs.Ytjoniicebjpdaaa
open Go.Ab

theorem l5 (v : Vl) : (vlC v).length = 5 := rfl
theorem t5 (v : Vl) : (vlC v).take 5 = vlC v := rfl
theorem cmpK_zero (a b : Option (Nat × Int)) : ((cmpK a b).2 && (cmpK a b).1 == 0) = true → a = b := by
  rcases a with _ | ⟨c, p⟩ <;> rcases b with _ | ⟨d, q⟩ <;> simp [cmpK]
  by_cases h : c = d
  · rcases sgI_three p q with ⟨e, c1⟩ | ⟨e, c1⟩ | ⟨e, c1⟩
    · simp [h, e]
    · simp [h, c1]
    · simp [h, e]
  · simp [h]

section
variable {X : XTab}

theorem vo1 (hX : OnlyKnown X) {t : T} {g : Heap} {ba bb : Nat} {a b : Vl} (ha : In64 a.n) (hb : In64 b.n) (t4 : t 4 = .ptr ba 0) (t5' : t 5 = .ptr bb 0) (gA : g.get ba = some (vlC a)) (gB : g.get bb = some (vlC b)) (t7 : t 7 = I (cmpV a b).1) (t8 : t 8 = .bool (cmpV a b).2) :
    Tells (fun m => J_precentorlaw3_ValueOrder_1 Try.prog (acallX Try.prog X m) m (retK Try.prog [.tmp 2]) t g) fun r _ => r = .bool true := by
  have u4 := Try.underlying4
  unfold J_precentorlaw3_ValueOrder_1
  simp [t4, t5', gA, gB, l5, t5]
  refine Tells.bind (value_Is hX a b ha hb g) ?_
  rintro _ g2 ⟨rfl, x2⟩
  cases e : (cmpV a b).2 with
  | true =>
    rw [e] at t8
    simp [t7, t8, u4]
    exact Tells.ok rfl
  | false =>
    rw [e] at t8
    simp [t7, t8, u4]
    exact Tells.ok rfl

theorem vo0 (hX : OnlyKnown X) {t : T} {g : Heap} {ba bb : Nat} {a b c : Vl} (ha : In64 a.n) (hb : In64 b.n) (t4 : t 4 = .ptr ba 0) (t5' : t 5 = .ptr bb 0) (gA : g.get ba = some (vlC a)) (gB : g.get bb = some (vlC b)) (fa : FedV a) (fb : FedV b) (fc : FedV c)
    (t7 : t 7 = I (cmpV a b).1) (t8 : t 8 = .bool (cmpV a b).2) (t11 : t 11 = I (cmpV b c).1) (t12 : t 12 = .bool (cmpV b c).2) (t13 : t 13 = I (cmpV a c).1) (t14 : t 14 = .bool (cmpV a c).2) :
    Tells (fun m => J_precentorlaw3_ValueOrder_0 Try.prog (acallX Try.prog X m) m (retK Try.prog [.tmp 2]) t g) fun r _ => r = .bool true := by
  have fin : ∀ t' : T, t' 4 = t 4 → t' 5 = t 5 → t' 7 = t 7 → t' 8 = t 8 → Tells (fun m => J_precentorlaw3_ValueOrder_1 Try.prog (acallX Try.prog X m) m (retK Try.prog [.tmp 2]) t' g) fun r _ => r = .bool true :=
    fun t' e4 e5 e7 e8 => vo1 hX ha hb (by rw [e4, t4]) (by rw [e5, t5']) gA gB (by rw [e7, t7]) (by rw [e8, t8])
  have law := cmpK_three (fk a) (fk b) (fk c)
  rw [← cmpV_fed fa fb, ← cmpV_fed fb fc, ← cmpV_fed fa fc] at law
  unfold J_precentorlaw3_ValueOrder_0
  cases e1 : (cmpV a b).2 with
  | false =>
    rw [e1] at t8
    simp [t8]
    exact fin _ (by simp) (by simp) (by simp) (by simp [t8])
  | true =>
    rw [e1] at t8
    cases e2 : (cmpV b c).2 with
    | false =>
      rw [e2] at t12
      simp [t8, t12]
      exact fin _ (by simp) (by simp) (by simp) (by simp [t8])
    | true =>
      rw [e2] at t12
      obtain ⟨l1, l2, l3⟩ := law e1 e2
      rw [l1] at t14
      have i1 := cmpK_in (fk a) (fk b)
      have i2 := cmpK_in (fk b) (fk c)
      rw [← cmpV_fed fa fb] at i1
      rw [← cmpV_fed fb fc] at i2
      generalize (cmpV a b).1 = p at *
      generalize (cmpV b c).1 = r at *
      generalize (cmpV a c).1 = s at *
      have three : ∀ z : Int, -1 ≤ z ∧ z ≤ 1 → z = -1 ∨ z = 0 ∨ z = 1 := fun z h => by omega
      rcases three p i1 with rfl | rfl | rfl <;> rcases three r i2 with rfl | rfl | rfl
      · have hs := l2 (by omega) (by omega)
        subst hs
        simp [t8, t12, t14, t7, t11, t13]
        exact fin _ (by simp) (by simp) (by simp [t7]) (by simp [t8])
      · have hs := l2 (by omega) (by omega)
        subst hs
        simp [t8, t12, t14, t7, t11, t13]
        exact fin _ (by simp) (by simp) (by simp [t7]) (by simp [t8])
      · simp [t8, t12, t14, t7, t11, t13]
        exact fin _ (by simp) (by simp) (by simp [t7]) (by simp [t8])
      · have hs := l2 (by omega) (by omega)
        subst hs
        simp [t8, t12, t14, t7, t11, t13]
        exact fin _ (by simp) (by simp) (by simp [t7]) (by simp [t8])
      · have hs := l2 (by omega) (by omega)
        subst hs
        simp [t8, t12, t14, t7, t11, t13]
        exact fin _ (by simp) (by simp) (by simp [t7]) (by simp [t8])
      · have hs := l3 (by omega) (by omega)
        subst hs
        simp [t8, t12, t14, t7, t11, t13]
        exact fin _ (by simp) (by simp) (by simp [t7]) (by simp [t8])
      · simp [t8, t12, t14, t7, t11, t13]
        exact fin _ (by simp) (by simp) (by simp [t7]) (by simp [t8])
      · have hs := l3 (by omega) (by omega)
        subst hs
        simp [t8, t12, t14, t7, t11, t13]
        exact fin _ (by simp) (by simp) (by simp [t7]) (by simp [t8])
      · have hs := l3 (by omega) (by omega)
        subst hs
        simp [t8, t12, t14, t7, t11, t13]
        exact fin _ (by simp) (by simp) (by simp [t7]) (by simp [t8])

theorem valueOrder_ (hX : OnlyKnown X) (hk : X F_precentorlaw3_known [] = some (.bool true)) {h : Heap} {v : AVal} {xs : List Int} (r : RawInts h v xs) :
    Tells (fun m => acallX Try.prog X m F_precentorlaw3_ValueOrder [v] h) fun a _ => a = .bool true := by
  refine R_precentorlaw3_ValueOrder _ (hX _ _ rfl) ?_
  refine Tells.prot fun Q' hQ => ?_
  have u4 := Try.underlying4
  unfold S_precentorlaw3_ValueOrder
  simp [bldR, fillR, splice, r.sl.known, r.sl.cells]
  refine Tells.box rfl rfl fun h1 bf f1 x1 l1 => ?_
  have fd1 : Feed h1 bf 0 := ⟨_, 0, xs, f1, by omega, by omega, (r.ext x1).sl, r.small, (r.ext x1).old⟩
  try simp
  refine Tells.bind (ValueH hX fd1 (by omega)) ?_
  rintro _ h2 ⟨a, rfl, fa, x2, f2⟩
  try simp
  refine Tells.bind (ValueH hX f2 (by omega)) ?_
  rintro _ h3 ⟨b, rfl, fb, x3, f3⟩
  try simp
  refine Tells.bind (ValueH hX f3 (by omega)) ?_
  rintro _ h4 ⟨c, rfl, fc, x4, f4⟩
  try simp
  refine Tells.new fun h5 bA oA x5 l5' => ?_
  try simp
  refine Tells.new fun h6 bB oB x6 l6 => ?_
  try simp
  refine Tells.new fun h7 bC oC x7 l7 => ?_
  have nAB : bA ≠ bB := by have := oA.lt; omega
  have nAC : bA ≠ bC := by have := oA.lt; have := x6.next; omega
  have nBC : bB ≠ bC := by have := oB.lt; omega
  have oA7 := (oA.e x6).e x7
  have oB7 := oB.e x7
  try simp
  refine Tells.stN oA7 (ds := vlC a) (by rfl) (by rfl) (by rfl) (by rfl) fun h8 oA8 x8 => ?_
  have oB8 := oB7.ext x8 (by simpa using Ne.symm nAB)
  have oC8 := oC.ext x8 (by simpa using Ne.symm nAC)
  try simp
  refine Tells.stN oB8 (ds := vlC b) (by rfl) (by rfl) (by rfl) (by rfl) fun h9 oB9 x9 => ?_
  have oA9 := oA8.ext x9 (by simpa using nAB)
  have oC9 := oC8.ext x9 (by simpa using Ne.symm nBC)
  try simp
  refine Tells.stN oC9 (ds := vlC c) (by rfl) (by rfl) (by rfl) (by rfl) fun g oCg x10 => ?_
  have oAg := oA9.ext x10 (by simpa using nAC)
  have oBg := oB9.ext x10 (by simpa using nBC)
  simp [oAg.1, oBg.1, l5, t5]
  refine Tells.bind (value_Cmp hX a b (fed_in fa) (fed_in fb) g) ?_
  rintro _ g1 ⟨rfl, y1⟩
  have oA1 := oAg.e y1
  have oB1 := oBg.e y1
  have oC1 := oCg.e y1
  simp [oA1.1, oB1.1, l5, t5]
  refine Tells.bind (value_Cmp hX b a (fed_in fb) (fed_in fa) g1) ?_
  rintro _ g2 ⟨rfl, y2⟩
  have oA2 := oA1.e y2
  have oB2 := oB1.e y2
  have oC2 := oC1.e y2
  simp [oC2.1, oB2.1, l5, t5]
  refine Tells.bind (value_Cmp hX b c (fed_in fb) (fed_in fc) g2) ?_
  rintro _ g3 ⟨rfl, y3⟩
  have oA3 := oA2.e y3
  have oB3 := oB2.e y3
  have oC3 := oC2.e y3
  simp [oC3.1, oA3.1, l5, t5]
  refine Tells.bind (value_Cmp hX a c (fed_in fa) (fed_in fc) g3) ?_
  rintro _ g4 ⟨rfl, y4⟩
  have oA4 := oA3.e y4
  have oB4 := oB3.e y4
  try simp
  refine Tells.bind (known_X hk g4) ?_
  rintro _ g4 ⟨rfl, rfl⟩
  have sw : cmpV b a = (-(cmpV a b).1, (cmpV a b).2) := by rw [cmpV_fed fb fa, cmpV_fed fa fb, cmpK_swap (fk a) (fk b)]
  have w : IntKind.i64.wrap (cmpV a b).1 = (cmpV a b).1 := by
    have := cmpK_in (fk a) (fk b)
    rw [← cmpV_fed fa fb] at this
    exact wrap_id (by omega) (by omega)
  rw [sw]
  simp [un_neg, w, u4]
  refine (vo0 hX (a := a) (b := b) (c := c) (ba := bA) (bb := bB) (fed_in fa) (fed_in fb) (by simp) (by simp) oA4.1 oB4.1 fa fb fc (by simp) (by simp) (by simp) (by simp) (by simp) (by simp)).mono fun r h q => hQ _ _ q
end
end Go.Proofs.Ytjoniicebjpdaaa

/-! What an argument is that is a value, or a bool. -/
namespace Go.Proofs.Ytjoniicebjpdaaa
open Go.Ab Go.ChangeShapes Go.WideShapes Go.ChangeAt Go.RowKit Go.Deep

theorem read_str {H : Type} {enc : TypeId × Value → H} {P : Program} {w : World} {base : Nat} {spare : Nat → Bool} {held : Bool} {t : TypeId} {n : Nat} {v : Value} {y : DataW H × List MemPlace} (ht : P.underlying t = some .string) (h : DataW.trod enc P w base spare held n t [v] = some y) (m : Nat) : ∃ s : ByteArray, ofV m v = .str s ∧ s.size < 2 ^ 63 := by
  obtain ⟨s, q1, _, q3⟩ := DataW.trod_string ht h
  cases q1
  have : s.size ≤ 2 ^ 63 - 1 := q3
  exact ⟨s, rfl, by omega⟩
theorem read_bool {H : Type} {enc : TypeId × Value → H} {P : Program} {w : World} {base : Nat} {spare : Nat → Bool} {held : Bool} {t : TypeId} {n : Nat} {v : Value} {y : DataW H × List MemPlace} (ht : P.underlying t = some .bool) (h : DataW.trod enc P w base spare held n t [v] = some y) (m : Nat) : ∃ b : Bool, ofV m v = .bool b := by
  obtain ⟨b, q1, _⟩ := DataW.trod_bool ht h
  cases q1
  exact ⟨b, rfl⟩
theorem read_float {H : Type} {enc : TypeId × Value → H} {P : Program} {w : World} {base : Nat} {spare : Nat → Bool} {held : Bool} {t : TypeId} {n : Nat} {v : Value} {y : DataW H × List MemPlace} (ht : P.underlying t = some (.float .f64)) (h : DataW.trod enc P w base spare held n t [v] = some y) (m : Nat) : ∃ x : Nat, ofV m v = .flt .f64 x := by
  cases n with
  | zero => simp [DataW.trod] at h
  | succ n =>
    unfold DataW.trod at h
    rw [ht] at h
    split at h <;> simp_all
    rename_i k k' b e1
    obtain ⟨⟨rfl, _⟩, _⟩ := h
    exact ⟨b, rfl⟩
theorem reads_bool {P : Program} {t : TypeId} (ht : P.underlying t = some .bool) : Reads P t fun h a => ∃ b : Bool, a = .bool b := by
  intro H enc w b0 base v d ps hval hd
  obtain ⟨b, rfl⟩ := okWide_bool ht hval
  exact ⟨b, rfl⟩
theorem reads_vl {P : Program} {v i n x s b : TypeId} (hc : P.cellsOf v = 5)
    (hg : ∃ fs, P.underlying v = some (.struct fs) ∧ ∀ k, k < ([(i, 0, 1), (n, 1, 1), (x, 2, 1), (s, 3, 1), (b, 4, 1)] : List (TypeId × Nat × Nat)).length → ∃ f, fs[k]? = some f ∧ ([(i, 0, 1), (n, 1, 1), (x, 2, 1), (s, 3, 1), (b, 4, 1)] : List (TypeId × Nat × Nat))[k]? = some (f.type, f.offset, P.cellsOf f.type))
    (hi : P.underlying i = some (.int .i64)) (hn : P.underlying n = some (.int .i64)) (hx : P.underlying x = some (.float .f64)) (hs : P.underlying s = some .string) (hb : P.underlying b = some .bool) : Reads P v fun h a => ∃ y : Vl, a = .agg (vlC y) ∧ In64 y.n := by
  intro H enc w b0 base z d ps hval hd
  obtain ⟨fs, hfs, _⟩ := id hg
  obtain ⟨cs, rfl, hsz⟩ := okWide_struct hfs hval
  obtain ⟨fuel, hf⟩ := hd
  obtain ⟨l⟩ := cs
  have hl : l.length = 5 := by rw [← hc]; exact hsz
  obtain ⟨_, hr⟩ := read_struct _ hg (cs := l) (by simpa [Value.cells] using hf)
  match l, hl with
  | [a1, a2, a3, a4, a5], _ =>
    obtain ⟨m0, z0, k0⟩ := hr 0 _ _ _ rfl
    obtain ⟨m1, z1, k1⟩ := hr 1 _ _ _ rfl
    obtain ⟨m2, z2, k2⟩ := hr 2 _ _ _ rfl
    obtain ⟨m3, z3, k3⟩ := hr 3 _ _ _ rfl
    obtain ⟨m4, z4, k4⟩ := hr 4 _ _ _ rfl
    obtain ⟨i1, e1, _⟩ := read_int hi (by simpa using k0) w.heap.size
    obtain ⟨i2, e2, h2⟩ := read_int hn (by simpa using k1) w.heap.size
    obtain ⟨f3, e3⟩ := read_float hx (by simpa using k2) w.heap.size
    obtain ⟨s4, e4, _⟩ := read_str hs (by simpa using k3) w.heap.size
    obtain ⟨b5, e5⟩ := read_bool hb (by simpa using k4) w.heap.size
    exact ⟨⟨i1, i2, f3, s4, b5⟩, by simp [ofV, ofVA, ofVs, e1, e2, e3, e4, e5, vlC], h2⟩
theorem reads24v : Reads Try.prog 24 fun h a => ∃ y : Vl, a = .agg (vlC y) ∧ In64 y.n :=
  reads_vl (i := 3) (n := 2) (x := 22) (s := 9) (b := 4) (by kernel_rfl)
    ⟨_, Try.underlying24, fun k hk => match k, hk with
    | 0, _ => ⟨_, rfl, by kernel_rfl⟩
    | 1, _ => ⟨_, rfl, by kernel_rfl⟩
    | 2, _ => ⟨_, rfl, by kernel_rfl⟩
    | 3, _ => ⟨_, rfl, by kernel_rfl⟩
    | 4, _ => ⟨_, rfl, by kernel_rfl⟩⟩ Try.underlying3 Try.underlying2 Try.underlying22 Try.underlying9 Try.underlying4
end Go.Proofs.Ytjoniicebjpdaaa

/-! Law ValueSame: the walk. -/
set_option maxRecDepth 20000
namespace Go.Proofs.Ytjoniicebjpdaaa
open Go.Ab

section
variable {X : XTab}

theorem cmpK_self (a : Option (Nat × Int)) : cmpK a a = (0, a.isSome) := by
  rcases a with _ | ⟨c, p⟩
  · rfl
  · simp [cmpK, sgI_eq]
theorem is_self {v : Vl} (h : FedV v) : ((cmpV v v).2 && (cmpV v v).1 == 0) = (fk v).isSome := by
  rw [cmpV_fed h h, cmpK_self]
  simp

theorem vs2 (hX : OnlyKnown X) {t : T} {g : Heap} {ba bb : Nat} {a b c : Vl} (t6 : t 6 = .ptr ba 0) (t7 : t 7 = .ptr bb 0) (oA : Ob g ba (vlC a)) (oB : Ob g bb (vlC b)) (fa : FedV a) (fb : FedV b) (fc : FedV c)
    (t9 : t 9 = I (cmpV a c).1) (t10 : t 10 = .bool (cmpV a c).2) (t11 : t 11 = I (cmpV b c).1) (t12 : t 12 = .bool (cmpV b c).2) :
    Tells (fun m => J_precentorlaw3_ValueSame_2 Try.prog (acallX Try.prog X m) m (retK Try.prog [.tmp 4]) t g) fun r _ => r = .bool true := by
  have u4 := Try.underlying4
  unfold J_precentorlaw3_ValueSame_2
  simp [t6, t7, oA.1, oB.1, l5, t5]
  refine Tells.cbE (value_Same hX a b g) ?_
  rintro _ g1 ⟨rfl, x1⟩
  cases hs : sameV a b with
  | false =>
    simp
    exact Tells.ok rfl
  | true =>
    have hk := same_key fa fb hs
    have e1 : cmpV a c = cmpV b c := by rw [cmpV_fed fa fc, cmpV_fed fb fc, hk]
    have e2 : cmpV a b = cmpV a a := by rw [cmpV_fed fa fb, cmpV_fed fa fa, hk]
    rw [e1] at t9 t10
    have oA1 := oA.e x1
    have oB1 := oB.e x1
    simp [t6, t7, t9, t10, t11, t12, u4, oA1.1, oB1.1, l5, t5]
    refine Tells.cbE (value_Is hX a b (fed_in fa) (fed_in fb) g1) ?_
    rintro _ g2 ⟨rfl, x2⟩
    have oA2 := oA1.e x2
    have oB2 := oB1.e x2
    simp [t6, t7, oA1.1, oB1.1, oA2.1, oB2.1, l5, t5]
    refine Tells.cbE (value_Is hX a a (fed_in fa) (fed_in fa) g2) ?_
    rintro _ g3 ⟨rfl, x3⟩
    rw [e2]
    simp [u4]
    exact Tells.ok rfl

theorem vs1 (hX : OnlyKnown X) {t : T} {g : Heap} {ba bb : Nat} {a b c : Vl} (t6 : t 6 = .ptr ba 0) (t7 : t 7 = .ptr bb 0) (oA : Ob g ba (vlC a)) (oB : Ob g bb (vlC b)) (fa : FedV a) (fb : FedV b) (fc : FedV c)
    (t9 : t 9 = I (cmpV a c).1) (t10 : t 10 = .bool (cmpV a c).2) (t11 : t 11 = I (cmpV b c).1) (t12 : t 12 = .bool (cmpV b c).2) :
    Tells (fun m => J_precentorlaw3_ValueSame_1 Try.prog (acallX Try.prog X m) m (retK Try.prog [.tmp 4]) t g) fun r _ => r = .bool true := by
  have u4 := Try.underlying4
  unfold J_precentorlaw3_ValueSame_1
  simp [t6, t7, oA.1, oB.1, l5, t5]
  refine Tells.bind (value_Is hX a b (fed_in fa) (fed_in fb) g) ?_
  rintro _ g1 ⟨rfl, x1⟩
  have fin : ∀ t' : T, t' 6 = t 6 → t' 7 = t 7 → t' 9 = t 9 → t' 10 = t 10 → t' 11 = t 11 → t' 12 = t 12 → Tells (fun m => J_precentorlaw3_ValueSame_2 Try.prog (acallX Try.prog X m) m (retK Try.prog [.tmp 4]) t' g1) fun r _ => r = .bool true :=
    fun t' k6 k7 k9 k10 k11 k12 => vs2 hX (a := a) (b := b) (c := c) (by rw [k6, t6]) (by rw [k7, t7]) (oA.e x1) (oB.e x1) fa fb fc (by rw [k9, t9]) (by rw [k10, t10]) (by rw [k11, t11]) (by rw [k12, t12])
  cases hi : ((cmpV a b).2 && (cmpV a b).1 == 0) with
  | false =>
    simp
    exact fin _ (by simp) (by simp) (by simp) (by simp) (by simp) (by simp)
  | true =>
    have hk : fk a = fk b := cmpK_zero _ _ (by rw [← cmpV_fed fa fb]; exact hi)
    have e1 : cmpV a c = cmpV b c := by rw [cmpV_fed fa fc, cmpV_fed fb fc, hk]
    have z9 := t9
    have z10 := t10
    rw [e1] at z9 z10
    simp [z9, z10, t11, t12, u4]
    exact fin _ (by simp) (by simp) (by simp [z9, t9, e1]) (by simp [z10, t10, e1]) (by simp [t11]) (by simp [t12])

theorem vs0 (hX : OnlyKnown X) {t : T} {g : Heap} {ba bb : Nat} {a b c : Vl} (t6 : t 6 = .ptr ba 0) (t7 : t 7 = .ptr bb 0) (oA : Ob g ba (vlC a)) (oB : Ob g bb (vlC b)) (fa : FedV a) (fb : FedV b) (fc : FedV c)
    (t9 : t 9 = I (cmpV a c).1) (t10 : t 10 = .bool (cmpV a c).2) (t11 : t 11 = I (cmpV b c).1) (t12 : t 12 = .bool (cmpV b c).2) :
    Tells (fun m => J_precentorlaw3_ValueSame_0 Try.prog (acallX Try.prog X m) m (retK Try.prog [.tmp 4]) t g) fun r _ => r = .bool true := by
  have u4 := Try.underlying4
  have gA : g.get ba = some [I a.k, I a.n, .flt .f64 a.x, .str a.s, .bool a.b] := oA.1
  unfold J_precentorlaw3_ValueSame_0
  simp [t6, gA]
  refine Tells.cbE (value_Is hX a a (fed_in fa) (fed_in fa) g) ?_
  rintro _ g1 ⟨rfl, x1⟩
  have gA1 : g1.get ba = some [I a.k, I a.n, .flt .f64 a.x, .str a.s, .bool a.b] := (oA.e x1).1
  have fin : ∀ t' : T, t' 6 = t 6 → t' 7 = t 7 → t' 9 = t 9 → t' 10 = t 10 → t' 11 = t 11 → t' 12 = t 12 → Tells (fun m => J_precentorlaw3_ValueSame_1 Try.prog (acallX Try.prog X m) m (retK Try.prog [.tmp 4]) t' g1) fun r _ => r = .bool true :=
    fun t' k6 k7 k9 k10 k11 k12 => vs1 hX (a := a) (b := b) (c := c) (by rw [k6, t6]) (by rw [k7, t7]) (oA.e x1) (oB.e x1) fa fb fc (by rw [k9, t9]) (by rw [k10, t10]) (by rw [k11, t11]) (by rw [k12, t12])
  have hs := is_self fa
  have hf := fk_self fa
  rw [hf] at hs
  rw [hs]
  cases c2 : (a.k == 2) with
  | false =>
    have n2 : (a.k != 2) = true := by simp [bne, c2]
    simp [t6, gA, gA1, n2, u4]
    exact fin _ (by simp) (by simp) (by simp) (by simp) (by simp) (by simp)
  | true =>
    have n2 : (a.k != 2) = false := by simp [bne, c2]
    simp [t6, gA, gA1, n2, u4]
    exact fin _ (by simp) (by simp) (by simp) (by simp) (by simp) (by simp)

theorem valueSame_ (hX : OnlyKnown X) (hk : X F_precentorlaw3_known [] = some (.bool true)) {h : Heap} {v : AVal} {xs : List Int} (r : RawInts h v xs) (y : Vl) (hy : In64 y.n) :
    Tells (fun m => acallX Try.prog X m F_precentorlaw3_ValueSame [v, .agg (vlC y)] h) fun a _ => a = .bool true := by
  refine R_precentorlaw3_ValueSame _ _ (hX _ _ rfl) ?_
  refine Tells.prot fun Q' hQ => ?_
  have u4 := Try.underlying4
  unfold S_precentorlaw3_ValueSame
  try simp
  refine Tells.box rfl rfl fun h0 bY oY x0 l0 => ?_
  have oY : Ob h0 bY (vlC y) := oY
  have r0 := r.ext x0
  simp [bldR, fillR, splice, r0.sl.known, r0.sl.cells]
  refine Tells.box rfl rfl fun h1 bf f1 x1 l1 => ?_
  have fd1 : Feed h1 bf 0 := ⟨_, 0, xs, f1, by omega, by omega, (r0.ext x1).sl, r0.small, (r0.ext x1).old⟩
  have nY : bY ≠ bf := by have := oY.lt; omega
  have oY1 := oY.e x1
  try simp
  refine Tells.bind (ValueH hX fd1 (by omega)) ?_
  rintro _ h2 ⟨a, rfl, fa, x2, f2⟩
  have oY2 := oY1.ext x2 (by simpa using nY)
  try simp
  refine Tells.bind (ValueH hX f2 (by omega)) ?_
  rintro _ h3 ⟨b, rfl, fb, x3, f3⟩
  have oY3 := oY2.ext x3 (by simpa using nY)
  try simp
  refine Tells.bind (ValueH hX f3 (by omega)) ?_
  rintro _ h4 ⟨c, rfl, fc, x4, f4⟩
  have oY4 := oY3.ext x4 (by simpa using nY)
  try simp
  refine Tells.new fun h5 bA oA x5 l5' => ?_
  try simp
  refine Tells.new fun h6 bB oB x6 l6 => ?_
  try simp
  refine Tells.new fun h7 bC oC x7 l7 => ?_
  have nAB : bA ≠ bB := by have := oA.lt; omega
  have nAC : bA ≠ bC := by have := oA.lt; have := x6.next; omega
  have nBC : bB ≠ bC := by have := oB.lt; omega
  have nYA : bY ≠ bA := by have := oY4.lt; omega
  have nYB : bY ≠ bB := by have := oY4.lt; have := x5.next; omega
  have nYC : bY ≠ bC := by have := oY4.lt; have := x5.next; have := x6.next; omega
  have oA7 := (oA.e x6).e x7
  have oB7 := oB.e x7
  have oY7 := ((oY4.e x5).e x6).e x7
  try simp
  refine Tells.stN oA7 (ds := vlC a) (by rfl) (by rfl) (by rfl) (by rfl) fun h8 oA8 x8 => ?_
  have oB8 := oB7.ext x8 (by simpa using Ne.symm nAB)
  have oC8 := oC.ext x8 (by simpa using Ne.symm nAC)
  have oY8 := oY7.ext x8 (by simpa using nYA)
  try simp
  refine Tells.stN oB8 (ds := vlC b) (by rfl) (by rfl) (by rfl) (by rfl) fun h9 oB9 x9 => ?_
  have oA9 := oA8.ext x9 (by simpa using nAB)
  have oC9 := oC8.ext x9 (by simpa using Ne.symm nBC)
  have oY9 := oY8.ext x9 (by simpa using nYB)
  try simp
  refine Tells.stN oC9 (ds := vlC c) (by rfl) (by rfl) (by rfl) (by rfl) fun g oCg x10 => ?_
  have oAg := oA9.ext x10 (by simpa using nAC)
  have oBg := oB9.ext x10 (by simpa using nBC)
  have oYg := oY9.ext x10 (by simpa using nYC)
  simp [oAg.1, oCg.1, l5, t5]
  refine Tells.bind (value_Cmp hX a c (fed_in fa) (fed_in fc) g) ?_
  rintro _ g1 ⟨rfl, y1⟩
  have oA1 := oAg.e y1
  have oB1 := oBg.e y1
  have oC1 := oCg.e y1
  have oY1 := oYg.e y1
  simp [oC1.1, oB1.1, l5, t5]
  refine Tells.bind (value_Cmp hX b c (fed_in fb) (fed_in fc) g1) ?_
  rintro _ g2 ⟨rfl, y2⟩
  have oA2 := oA1.e y2
  have oB2 := oB1.e y2
  have oY2 := oY1.e y2
  try simp
  refine Tells.cbE (known_X hk g2) ?_
  rintro _ g2 ⟨rfl, rfl⟩
  simp [oY2.1, l5, t5]
  refine Tells.cbE (value_Same hX y y g2) ?_
  rintro _ g3 ⟨rfl, y3⟩
  have oA3 := oA2.e y3
  have oB3 := oB2.e y3
  simp [sameV_self, oA3.1, l5, t5]
  refine Tells.cbE (value_Same hX a a g3) ?_
  rintro _ g4 ⟨rfl, y4⟩
  have oA4 := oA3.e y4
  have oB4 := oB3.e y4
  simp [sameV_self, oA4.1, oB4.1, l5, t5]
  refine Tells.cbE (value_Same hX a b g4) ?_
  rintro _ g5 ⟨rfl, y5⟩
  have oA5 := oA4.e y5
  have oB5 := oB4.e y5
  simp [oA4.1, oB4.1, oA5.1, oB5.1, l5, t5]
  refine Tells.cbE (value_Same hX b a g5) ?_
  rintro _ g6 ⟨rfl, y6⟩
  rw [sameV_comm b a]
  have oA6 := oA5.e y6
  have oB6 := oB5.e y6
  simp [u4, oA6.1, l5, t5]
  refine Tells.cbE (value_RightG hX a g6) ?_
  rintro _ g7 ⟨rfl, y7⟩
  rw [fed_right fa]
  simp
  refine (vs0 hX (a := a) (b := b) (c := c) (ba := bA) (bb := bB) (by simp) (by simp) (oA6.e y7) (oB6.e y7) fa fb fc (by simp) (by simp) (by simp) (by simp)).mono fun r h q => hQ _ _ q
end
end Go.Proofs.Ytjoniicebjpdaaa
