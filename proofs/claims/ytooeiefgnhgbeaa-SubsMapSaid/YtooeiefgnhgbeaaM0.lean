/-
  Texts of a claim, merged: HandP, Hand0, HandF, HandW, SubR, FilC, Subs1, Subs2, SM0, EqW, ValD2, FlB, ValC2.
-/
import Derived.MapKept
import Derived.WideShapes
import Derived.Laws.Closers25b
import Derived.Test.YtooeiefgnhgbeaaB1
import Derived.Test.YtooeiefgnhgbeaaSprecentorhand
import Derived.Test.YtooeiefgnhgbeaaB3
import Derived.Test.YtooeiefgnhgbeaaCell0
import Derived.Test.YtooeiefgnhgbeaaSmath
import Derived.Test.YtooeiefgnhgbeaaRawC
import Derived.Test.YtooeiefgnhgbeaaRawD
import Derived.Test.YtooeiefgnhgbeaaSfilter
import Derived.Test.YtooeiefgnhgbeaaSsubs
import Derived.Test.YtooeiefgnhgbeaaEq2
import Derived.Test.YtooeiefgnhgbeaaOps
import Derived.Test.YtooeiefgnhgbeaaBitsF
import Derived.Test.YtooeiefgnhgbeaaSfloat
import Derived.Test.YtooeiefgnhgbeaaSprecentorref1
import Derived.Test.YtooeiefgnhgbeaaSvalue
set_option linter.unusedVariables false
set_option linter.unusedSimpArgs false
/-! What precentorhand's Pick tells. -/
namespace Go.Proofs.Ytooeiefgnhgbeaa
open Go.Ab

section
variable {X : XTab}

def pick (n m : Int) : Int := if m < 1 then 0 else if n.tmod m < 0 then n.tmod m + m else n.tmod m

theorem pick_lo (n m : Int) : 0 ≤ pick n m := by
  unfold pick
  split
  · omega
  · split
    · have := Int.lt_tmod_of_pos n (show 0 < m by omega); omega
    · omega
theorem pick_hi (n m : Int) (h : 1 ≤ m) : pick n m < m := by
  unfold pick
  have := Int.tmod_lt_of_pos n (show 0 < m by omega)
  split
  · omega
  · split <;> omega

theorem Pick (hX : OnlyKnown X) (n m : Int) (hm : In64 m) (h : Heap) : Tells (fun q => acallX Try.prog X q F_precentorhand_Pick [I n, I m] h) fun v h' => v = I (pick n m) ∧ h' = h := by
  refine R_precentorhand_Pick _ _ (hX _ _ rfl) ?_
  unfold S_precentorhand_Pick
  simp
  by_cases h1 : m < 1
  · simp [h1]
    exact Tells.ok ⟨by simp [pick, h1], rfl⟩
  · simp [h1, J_precentorhand_Pick_0, aBin_rem _ _ _ _ _ _ _ (show m ≠ 0 by omega)]
    by_cases h2 : n.tmod m < 0
    · simp [h2, J_precentorhand_Pick_1]
      refine Tells.ok ⟨?_, rfl⟩
      have := Int.lt_tmod_of_pos n (show 0 < m by omega)
      rw [wrap_id (by omega) (by have := hm.2; omega)]
      simp [pick, h1, h2]
    · simp [h2, J_precentorhand_Pick_1]
      exact Tells.ok ⟨by simp [pick, h1, h2], rfl⟩

end
end Go.Proofs.Ytooeiefgnhgbeaa

/-! What precentorhand's Next tells. -/
namespace Go.Proofs.Ytooeiefgnhgbeaa
open Go.Ab

/-- A feed of raw numbers, asked k times at most. -/
def Feed (h : Heap) (bf k : Nat) : Prop := ∃ L at_ xs, Ob h bf [L, I at_] ∧ 0 ≤ at_ ∧ at_ ≤ (k : Int) ∧ Sl intR h L xs ∧ xs.length < 2 ^ 63 ∧ ∀ c, c ∈ L.blks → c < h.n0
theorem Feed.ext {S : List Nat} {h h' : Heap} {bf k : Nat} (f : Feed h bf k) (e : Ext S h h') (hb : bf ∉ S) : Feed h' bf k := by
  obtain ⟨L, a, xs, h1, h2, h3, h4, h5, h6⟩ := f
  exact ⟨L, a, xs, h1.ext e hb, h2, h3, h4.ext e, h5, by rw [e.n0]; exact h6⟩
theorem Feed.e {h h' : Heap} {bf k : Nat} (f : Feed h bf k) (e : Ext [] h h') : Feed h' bf k := f.ext e (by simp)
theorem Feed.mono {h : Heap} {bf k k' : Nat} (f : Feed h bf k) (hk : k ≤ k') : Feed h bf k' := by
  obtain ⟨L, a, xs, h1, h2, h3, h4⟩ := f
  exact ⟨L, a, xs, h1, h2, by omega, h4⟩
theorem Feed.lt {h : Heap} {bf k : Nat} (f : Feed h bf k) : bf < h.next := by obtain ⟨L, a, xs, h1, _⟩ := f; exact h1.lt
theorem Feed.m {h : Heap} {bf k : Nat} (f : Feed h bf k) : h.isM bf = true := by obtain ⟨L, a, xs, h1, _⟩ := f; exact h1.2.1

section
variable {X : XTab}

theorem Next (hX : OnlyKnown X) (n : Int) (hn : In64 n) {h : Heap} {bf k : Nat} (f : Feed h bf k) (hk : k < 2 ^ 62) :
    Tells (fun q => acallX Try.prog X q F_precentorhand_Feed_Next [.ptr bf 0, I n] h) fun v h' => ∃ r, v = I r ∧ 0 ≤ r ∧ (1 ≤ n → r < n) ∧ (n < 1 → r = 0) ∧ Ext [bf] h h' ∧ Feed h' bf (k + 1) := by
  refine R_precentorhand_Feed_Next _ _ (hX _ _ rfl) ?_
  unfold S_precentorhand_Feed_Next
  obtain ⟨L, a, xs, h1, h2, h3, h4, h5, h6⟩ := f
  have hlen := h4.len
  by_cases hz : xs.length = 0
  · simp [h1.1, hlen, hz]
    exact Tells.ok ⟨0, rfl, by omega, fun _ => by omega, fun _ => rfl, .refl, ⟨L, a, xs, h1, h2, by omega, h4, h5, h6⟩⟩
  · have hl : (xs.length : Int) ≠ 0 := by omega
    have hl2 : ((xs.length : Int) == 0) = false := beq_eq_false_iff_ne.2 hl
    have m0 : 0 ≤ a.tmod xs.length := Int.tmod_nonneg _ h2
    have m1 : a.tmod xs.length < xs.length := Int.tmod_lt_of_pos _ (by omega)
    obtain ⟨x, hx⟩ : ∃ x, xs[(a.tmod xs.length).toNat]? = some x := ⟨_, List.getElem?_eq_getElem (by omega)⟩
    obtain ⟨b, p, B, c, q1, q2, q3⟩ := h4.at (n := 1) rfl m0 hx
    have d0 : 0 ≤ a.tdiv xs.length := Int.tdiv_nonneg h2 (by omega)
    have d1 : a.tdiv xs.length ≤ a := Int.tdiv_le_self _ h2
    have w1 : IntKind.i64.wrap (a.tdiv xs.length) = a.tdiv xs.length := wrap_id (by omega) (by omega)
    have w2 : IntKind.i64.wrap (1 + a.tdiv xs.length) = 1 + a.tdiv xs.length := wrap_id (by omega) (by omega)
    have w3 : IntKind.i64.wrap (a + 1) = a + 1 := wrap_id (by omega) (by omega)
    have q4 := q2.ld0 (x := I x) (by rw [q3]; rfl)
    obtain ⟨h', s1, s2, s3⟩ := h1.st (off := 1) (n := 1) (v := I (a + 1)) rfl rfl (by simp)
    simp only [ld1_ptr, cell_eq] at q4
    simp [h1.1, hlen, hl2, J_precentorhand_Feed_Next_0, aBin_rem _ _ _ _ _ _ _ hl, aBin_quo _ _ _ _ _ _ _ hl, q1, q4, w1, w2, aBin_quo _ _ _ _ _ _ _ (show 1 + a.tdiv xs.length ≠ 0 by omega), w3, s1]
    refine Tells.bind (Pick hX _ n hn _) ?_
    rintro v h' ⟨rfl, rfl⟩
    exact Tells.ok ⟨_, rfl, pick_lo _ _, pick_hi _ _, fun q => by simp [pick, q], s3, ⟨L, a + 1, xs, by simpa [splice] using s2, by omega, by omega, h4.ext s3, h5, by rw [s3.n0]; exact h6⟩⟩

end
end Go.Proofs.Ytooeiefgnhgbeaa

/-! What precentorhand's Float tells. -/
namespace Go.Proofs.Ytooeiefgnhgbeaa
open Go.Ab

section
variable {X : XTab}

theorem nat_bits (b : Nat) : aNat Try.prog F_math_Float64bits [.flt .f64 b] = some (.int .u64 b) := by kernel_rfl

theorem nat_frombits (n : Int) : aNat Try.prog F_math_Float64frombits [.int .u64 n] = some (.flt .f64 n.toNat) := by kernel_rfl

def fl14 : List Nat := [0, 9223372036854775808, 4607182418800017408, 4609434218613702656, 4611686018427387904, 4613937818241073152, 13830554455654793216, 4591870180066957722, 9221120237041090561, 9218868437227405312, 18442240474082181120, 4845873199050653696, 4890909195324358656, 1]

theorem Copysign0 (hX : OnlyKnown X) (h : Heap) : Tells (fun q => acallX Try.prog X q F_math_Copysign [.flt .f64 0, .flt .f64 13830554455654793216] h) fun r h' => r = .flt .f64 9223372036854775808 ∧ h' = h := by
  refine R_math_Copysign _ _ (hX _ _ rfl) ?_
  unfold S_math_Copysign
  have e1 : ∀ t x y, aBin Try.prog .andNot t x y (.int .u64 0) (.int .u64 9223372036854775808) = some (.int .u64 0) := fun t x y => by kernel_rfl
  have e2 : ∀ t x y, aBin Try.prog .and t x y (.int .u64 13830554455654793216) (.int .u64 9223372036854775808) = some (.int .u64 9223372036854775808) := fun t x y => by kernel_rfl
  have e3 : ∀ t x y, aBin Try.prog .or t x y (.int .u64 0) (.int .u64 9223372036854775808) = some (.int .u64 9223372036854775808) := fun t x y => by kernel_rfl
  have n1 := nat_bits 0
  have n2 := nat_bits 13830554455654793216
  have n3 := nat_frombits 9223372036854775808
  simp at n1 n2 n3
  simp [n1, n2, e1, e2, e3, n3]
  exact Tells.ok ⟨rfl, rfl⟩

theorem NaN_ (hX : OnlyKnown X) (h : Heap) : Tells (fun q => acallX Try.prog X q F_math_NaN [] h) fun r h' => r = .flt .f64 9221120237041090561 ∧ h' = h := by
  refine R_math_NaN (hX _ _ rfl) ?_
  unfold S_math_NaN
  have n3 := nat_frombits 9221120237041090561
  simp at n3
  simp [n3]
  exact Tells.ok ⟨rfl, rfl⟩

theorem Inf_ (hX : OnlyKnown X) (s : Int) (h : Heap) : Tells (fun q => acallX Try.prog X q F_math_Inf [I s] h) fun r h' => r = .flt .f64 (if 0 ≤ s then 9218868437227405312 else 18442240474082181120) ∧ h' = h := by
  refine R_math_Inf _ (hX _ _ rfl) ?_
  unfold S_math_Inf
  have n3 := nat_frombits 9218868437227405312
  have n4 := nat_frombits 18442240474082181120
  simp at n3 n4
  by_cases q : 0 ≤ s
  · simp [q, J_math_Inf_0, n3]
    exact Tells.ok ⟨rfl, rfl⟩
  · simp [q, J_math_Inf_0, n4]
    exact Tells.ok ⟨rfl, rfl⟩

theorem FloatH (hX : OnlyKnown X) {h : Heap} {bf k : Nat} (f : Feed h bf k) (hk : k < 2 ^ 62) :
    Tells (fun q => acallX Try.prog X q F_precentorhand_Feed_Float [.ptr bf 0] h) fun r h' => ∃ x, r = .flt .f64 x ∧ x ∈ fl14 ∧ Ext [bf] h h' ∧ Feed h' bf (k + 1) := by
  refine R_precentorhand_Feed_Float _ (hX _ _ rfl) ?_
  refine Tells.prot fun Q' hQ => ?_
  unfold S_precentorhand_Feed_Float
  try simp
  refine Tells.bind (Copysign0 hX h) ?_
  rintro _ h ⟨rfl, rfl⟩
  try simp
  refine Tells.bind (NaN_ hX h) ?_
  rintro _ h ⟨rfl, rfl⟩
  try simp
  refine Tells.bind (Inf_ hX 1 h) ?_
  rintro _ h ⟨rfl, rfl⟩
  try simp
  refine Tells.bind (Inf_ hX (-1) h) ?_
  rintro _ h ⟨rfl, rfl⟩
  simp [bldR, fillR, splice]
  refine Tells.newSt (ds := fl14.map fun x => .flt .f64 x) (by rfl) (by rfl) (by rfl) (by rfl) fun h1 bl o1 x1 l1 => ?_
  try simp
  refine Tells.bind (Next hX 14 ⟨by decide, by decide⟩ (f.e x1) hk) ?_
  rintro _ h2 ⟨r, rfl, r0, r1, _, x2, f2⟩
  have r1 := r1 (by decide)
  obtain ⟨n, rfl⟩ : ∃ n : Nat, r = n := ⟨r.toNat, by omega⟩
  have hn : n < 14 := by omega
  have hp := ixp_at (len := 14) (z := 1) (b := bl) (o := 0) hn
  rw [Nat.mul_one] at hp
  have o2 := o1.ext x2 (by have := f.lt; simp; omega)
  obtain ⟨x, hx⟩ : ∃ x, fl14[n]? = some x := ⟨_, List.getElem?_eq_getElem (by simpa [fl14] using hn)⟩
  have hx2 : (fl14.map fun x => AVal.flt .f64 x)[n]? = some (.flt .f64 x) := by rw [List.getElem?_map, hx]; rfl
  rw [Nat.zero_add] at hp
  simp only [hp, of_some, arb_val, ld1_ptr, cell_eq, o2.1, hx2, lt_eq, retK_ret, resK_tmp, resK_nil, upd_same, one_one, bind_ok']
  exact Tells.ok (hQ _ _ ⟨x, rfl, List.mem_of_getElem? hx, x1.of.then x2 fun z hz => .inl hz, f2⟩)

end
end Go.Proofs.Ytooeiefgnhgbeaa

/-! What precentorhand's Value tells. -/
namespace Go.Proofs.Ytooeiefgnhgbeaa
open Go.Ab

section
variable {X : XTab}

/-- A value: its kind, whole number, float's bits, text, bool. -/
structure Vl where
  k : Int
  n : Int
  x : Nat
  s : ByteArray
  b : Bool

def vlC (v : Vl) : List AVal := [I v.k, I v.n, .flt .f64 v.x, .str v.s, .bool v.b]

def texts6 : List ByteArray := [bs [], bs [97], bs [97, 98], bs [98], bs [98, 97], bs [116, 119, 101, 108, 118, 101, 32, 98, 121, 116, 101, 115]]

def ints6 : List Int := [-9223372036854775808, 9223372036854775807, 9007199254740992, 9007199254740993, -1, 4611686018427387904]

/-- A value that the feed tells. -/
def FedV (v : Vl) : Prop := (v.k = 1 ∧ v.x = 0 ∧ v.s = bs [] ∧ v.b = false ∧ In64 v.n) ∨ (v.k = 2 ∧ v.n = 0 ∧ v.x ∈ fl14 ∧ v.s = bs [] ∧ v.b = false) ∨
  (v.k = 3 ∧ v.n = 0 ∧ v.x = 0 ∧ v.s ∈ texts6 ∧ v.b = false) ∨ (v.k = 4 ∧ v.n = 0 ∧ v.x = 0 ∧ v.s = bs [])

theorem ValueH (hX : OnlyKnown X) {h : Heap} {bf k : Nat} (f : Feed h bf k) (hk : k < 2 ^ 61) :
    Tells (fun q => acallX Try.prog X q F_precentorhand_Feed_Value [.ptr bf 0] h) fun r h' => ∃ v, r = .agg (vlC v) ∧ FedV v ∧ Ext [bf] h h' ∧ Feed h' bf (k + 2) := by
  refine R_precentorhand_Feed_Value _ (hX _ _ rfl) ?_
  refine Tells.prot fun Q' hQ => ?_
  unfold S_precentorhand_Feed_Value
  try simp
  refine Tells.new fun h1 bv o1 x1 l1 => ?_
  have hne : bf ≠ bv := by have := f.lt; omega
  try simp
  refine Tells.bind (Next hX 8 ⟨by decide, by decide⟩ (f.e x1) (by omega)) ?_
  rintro _ h2 ⟨r, rfl, r0, r1, _, x2, f2⟩
  have o2 := o1.ext x2 (by simpa using hne.symm)
  have x02 : Ext [bf] h h2 := x1.of.then x2 fun z hz => .inl hz
  -- the end of each way
  have fin : ∀ (g : Heap) (v : Vl) (K : Nat), K ≤ k + 2 → FedV v → Ob g bv (vlC v) → Ext [bf] h g → Feed g bf K → Q' (.agg (vlC v)) g := fun g v K hK hv o x f => hQ _ _ ⟨v, rfl, hv, x, f.mono hK⟩
  have xs : ∀ {g g' : Heap}, Ext [bf] h g → Ext [bv] g g' → Ext [bf] h g' := fun a b => a.then b fun z hz => .inr (by simp at hz; omega)
  have one : ∀ (ty : Nat), (∀ h a, aLoad Try.prog h ty a = ldn 5 h a) → ∀ (t : T) (q : Bool), t 0 = .ptr bf 0 → t 2 = .ptr bv 0 → t 6 = I r → t 7 = .bool q → Tells (fun m => J_precentorhand_Feed_Value_1 Try.prog (acallX Try.prog X m) m (blkK 0 (sqK (J_precentorhand_Feed_Value_0 Try.prog (acallX Try.prog X m) m (retK Try.prog [.cell 2 ty])) (retK Try.prog [.cell 2 ty]))) t h2) Q' := by
    intro ty hty t q t0 t2 t6 t7
    unfold J_precentorhand_Feed_Value_1
    cases q with
    | true =>
      simp [t7, t0]
      refine Tells.bind (FloatH hX f2 (by omega)) ?_
      rintro _ h3 ⟨x, rfl, hx, x3, f3⟩
      have o3 := o2.ext x3 (by simpa using hne.symm)
      simp [bldR, fillR, splice, t2]
      refine Tells.stN o3 (ds := vlC ⟨2, 0, x, bs [], false⟩) (by rfl) (by rfl) (by rfl) (by rfl) fun h4 o4 x4 => ?_
      simp [t2, hty, o4.1]
      exact Tells.ok (fin h4 ⟨2, 0, x, bs [], false⟩ (k + 2) (Nat.le_refl _) (.inr (.inl ⟨rfl, rfl, hx, rfl, rfl⟩)) o4 (xs (x02.trans x3) x4) (f3.ext x4 (by simpa using hne)))
    | false =>
      by_cases c2 : r = 2
      · simp [t7, t6, c2, bldR, fillR, splice]
        refine Tells.newSt (ds := texts6.map AVal.str) (by rfl) (by rfl) (by rfl) (by rfl) fun h3 bl o3 x3 l3 => ?_
        have f3 := f2.e x3
        simp [t0]
        refine Tells.bind (Next hX 6 ⟨by decide, by decide⟩ f3 (by omega)) ?_
        rintro _ h4 ⟨u, rfl, u0, u1, _, x4, f4⟩
        have u1 := u1 (by decide)
        obtain ⟨n, rfl⟩ : ∃ n : Nat, u = n := ⟨u.toNat, by omega⟩
        have hn : n < 6 := by omega
        have hp := ixp_at (len := 6) (z := 1) (b := bl) (o := 0) hn
        rw [Nat.mul_one, Nat.zero_add] at hp
        have o4 := o3.ext x4 (by have := f2.lt; simp; omega)
        have v4 := (o2.e x3).ext x4 (by simpa using hne.symm)
        obtain ⟨s, hs⟩ : ∃ s, texts6[n]? = some s := ⟨_, List.getElem?_eq_getElem (by simpa [texts6] using hn)⟩
        have hs2 : (texts6.map AVal.str)[n]? = some (.str s) := by rw [List.getElem?_map, hs]; rfl
        simp only [hp, of_some, arb_val, ld1_ptr, cell_eq, o4.1, hs2, lt_eq]
        simp [t2]
        refine Tells.stN v4 (ds := vlC ⟨3, 0, 0, s, false⟩) (by rfl) (by rfl) (by rfl) (by rfl) fun h5 o5 x5 => ?_
        simp [t2, hty, o5.1]
        exact Tells.ok (fin h5 ⟨3, 0, 0, s, false⟩ (k + 2) (Nat.le_refl _) (.inr (.inr (.inl ⟨rfl, rfl, rfl, List.mem_of_getElem? hs, rfl⟩))) o5 (xs ((x02.quiet x3).trans x4) x5) (f4.ext x5 (by simpa using hne)))
      · have e2 : (r == 2) = false := beq_eq_false_iff_ne.2 c2
        by_cases c3 : r = 3
        · simp [t7, t6, c3, t0]
          refine Tells.bind (Next hX 2 ⟨by decide, by decide⟩ f2 (by omega)) ?_
          rintro _ h3 ⟨u, rfl, _, _, _, x3, f3⟩
          have o3 := o2.ext x3 (by simpa using hne.symm)
          simp [bldR, fillR, splice, t2]
          refine Tells.stN o3 (ds := vlC ⟨4, 0, 0, bs [], u == 1⟩) (by rfl) (by rfl) (by rfl) (by rfl) fun h4 o4 x4 => ?_
          simp [t2, hty, o4.1]
          exact Tells.ok (fin h4 ⟨4, 0, 0, bs [], u == 1⟩ (k + 2) (Nat.le_refl _) (.inr (.inr (.inr ⟨rfl, rfl, rfl, rfl⟩))) o4 (xs (x02.trans x3) x4) (f3.ext x4 (by simpa using hne)))
        · have e3 : (r == 3) = false := beq_eq_false_iff_ne.2 c3
          by_cases c4 : r = 4
          · simp [t7, t6, c4, bldR, fillR, splice]
            refine Tells.newSt (ds := ints6.map I) (by rfl) (by rfl) (by rfl) (by rfl) fun h3 bl o3 x3 l3 => ?_
            have f3 := f2.e x3
            simp [t0]
            refine Tells.bind (Next hX 6 ⟨by decide, by decide⟩ f3 (by omega)) ?_
            rintro _ h4 ⟨u, rfl, u0, u1, _, x4, f4⟩
            have u1 := u1 (by decide)
            obtain ⟨n, rfl⟩ : ∃ n : Nat, u = n := ⟨u.toNat, by omega⟩
            have hn : n < 6 := by omega
            have hp := ixp_at (len := 6) (z := 1) (b := bl) (o := 0) hn
            rw [Nat.mul_one, Nat.zero_add] at hp
            have o4 := o3.ext x4 (by have := f2.lt; simp; omega)
            have v4 := (o2.e x3).ext x4 (by simpa using hne.symm)
            obtain ⟨s, hs⟩ : ∃ s, ints6[n]? = some s := ⟨_, List.getElem?_eq_getElem (by simpa [ints6] using hn)⟩
            have hs2 : (ints6.map I)[n]? = some (I s) := by rw [List.getElem?_map, hs]; rfl
            have hin : In64 s := by
              have : s ∈ ints6 := List.mem_of_getElem? hs
              simp [ints6] at this
              unfold In64
              omega
            simp only [hp, of_some, arb_val, ld1_ptr, cell_eq, o4.1, hs2, lt_eq]
            simp [t2]
            refine Tells.stN v4 (ds := vlC ⟨1, s, 0, bs [], false⟩) (by rfl) (by rfl) (by rfl) (by rfl) fun h5 o5 x5 => ?_
            simp [t2, hty, o5.1]
            exact Tells.ok (fin h5 ⟨1, s, 0, bs [], false⟩ (k + 2) (Nat.le_refl _) (.inl ⟨rfl, rfl, rfl, rfl, hin⟩) o5 (xs ((x02.quiet x3).trans x4) x5) (f4.ext x5 (by simpa using hne)))
          · have e4 : (r == 4) = false := beq_eq_false_iff_ne.2 c4
            simp [t7, t6, e2, e3, e4, J_precentorhand_Feed_Value_0, t0]
            refine Tells.bind (Next hX 5 ⟨by decide, by decide⟩ f2 (by omega)) ?_
            rintro _ h3 ⟨u, rfl, u0, u1, _, x3, f3⟩
            have u1 := u1 (by decide)
            have o3 := o2.ext x3 (by simpa using hne.symm)
            simp [bldR, fillR, splice, t2]
            refine Tells.stN o3 (ds := vlC ⟨1, u, 0, bs [], false⟩) (by rfl) (by rfl) (by rfl) (by rfl) fun h4 o4 x4 => ?_
            simp [t2, hty, o4.1]
            have hu : In64 u := ⟨by omega, by omega⟩
            exact Tells.ok (fin h4 ⟨1, u, 0, bs [], false⟩ (k + 2) (Nat.le_refl _) (.inl ⟨rfl, rfl, rfl, rfl, hu⟩) o4 (xs (x02.trans x3) x4) (f3.ext x4 (by simpa using hne)))
  by_cases c0 : r = 0
  · subst c0
    try simp
    exact one _ C_precentorhand_Feed_Value_0 _ _ (by simp) (by simp) (by simp) (by simp; rfl)
  · have e0 : (r == 0) = false := beq_eq_false_iff_ne.2 c0
    simp [e0]
    exact one _ C_precentorhand_Feed_Value_0 _ (r == 1) (by simp) (by simp) (by simp) (by simp)

end
end Go.Proofs.Ytooeiefgnhgbeaa

/-! Tests and subscriptions in the heap. -/
namespace Go.Proofs.Ytooeiefgnhgbeaa
open Go.Ab

def vlR : Rp Vl := ⟨5, by decide, fun _ cs x => cs = vlC x, fun h => by rw [h]; rfl, fun h => by rw [h]; rfl, fun h _ => h⟩

/-- A test: name, kind, V, W, set. -/
structure Prd where
  name : ByteArray
  test : Int
  v : Vl
  w : Vl
  set : List Vl
def prC (p : Prd) (sv : AVal) : List AVal := .str p.name :: I p.test :: (vlC p.v ++ (vlC p.w ++ [sv]))
/-- A test, whose set's class began where Z says. -/
def prZ (Z : Nat → Prop) : Rp Prd where
  n := 13
  pos := by decide
  rep := fun h cs p => ∃ sv, cs = prC p sv ∧ Sl vlR h sv p.set ∧ ∀ c, c ∈ sv.blks → Z (h.root c)
  len := fun ⟨sv, e, _⟩ => by rw [e]; rfl
  one := fun ⟨sv, e, o, _⟩ => by rw [e]; simp [prC, vlC, o.one]
  ext := fun ⟨sv, e, o, z⟩ x => ⟨sv, e, o.ext x, fun c hc => by rw [root_ext x (o.blk c hc).2]; exact z c hc⟩
def prF : Fam Prd where
  r := prZ
  n := 13
  hn := fun _ => rfl
  mono := fun hz ⟨sv, e, o, z⟩ => ⟨sv, e, o, fun c hc => hz _ (Nat.lt_of_le_of_lt (root_le _ c) (o.blk c hc).2) (z c hc)⟩
  extC := fun nz x ⟨sv, e, o, z⟩ => ⟨sv, e, o.extC (fun q => q) x (Apart.of fun c hc q => nz (by rw [← q]; exact z c hc)), fun c hc => by unfold Heap.root; rw [x.cls]; exact z c hc⟩

/-- A subscription: client, broker, number, filter. -/
structure Sx where
  c : Int
  b : Int
  n : Int
  fl : List Prd
def sxC (s : Sx) (fv : AVal) : List AVal := [I s.c, I s.b, I s.n, fv]
def sxZ (Z : Nat → Prop) : Rp Sx where
  n := 4
  pos := by decide
  rep := fun h cs s => ∃ fv, cs = sxC s fv ∧ Sl (prZ Z) h fv s.fl ∧ ∀ c, c ∈ fv.blks → Z (h.root c)
  len := fun ⟨sv, e, _⟩ => by rw [e]; rfl
  one := fun ⟨sv, e, o, _⟩ => by rw [e]; simp [sxC, o.one]
  ext := fun ⟨sv, e, o, z⟩ x => ⟨sv, e, o.ext x, fun c hc => by rw [root_ext x (o.blk c hc).2]; exact z c hc⟩
def sxF : Fam Sx where
  r := sxZ
  n := 4
  hn := fun _ => rfl
  mono := fun hz ⟨sv, e, o, z⟩ => ⟨sv, e, Sl.fam prF o hz, fun c hc => hz _ (Nat.lt_of_le_of_lt (root_le _ c) (o.blk c hc).2) (z c hc)⟩
  extC := fun {Z b h h' cs x} nz x' ⟨sv, e, o, z⟩ => ⟨sv, e, Sl.famC prF o x' nz (Apart.of fun c hc q => nz (by rw [← q]; exact z c hc)), fun c hc => by unfold Heap.root; rw [x'.cls]; exact z c hc⟩

/-- A change: gone, subscription. -/
structure Cg where
  gone : Bool
  s : Sx
def cgZ (Z : Nat → Prop) : Rp Cg where
  n := 5
  pos := by decide
  rep := fun h cs x => ∃ fv, cs = .bool x.gone :: sxC x.s fv ∧ Sl (prZ Z) h fv x.s.fl ∧ ∀ c, c ∈ fv.blks → Z (h.root c)
  len := fun ⟨sv, e, _⟩ => by rw [e]; rfl
  one := fun ⟨sv, e, o, _⟩ => by rw [e]; simp [sxC, o.one]
  ext := fun ⟨sv, e, o, z⟩ x => ⟨sv, e, o.ext x, fun c hc => by rw [root_ext x (o.blk c hc).2]; exact z c hc⟩
def cgF : Fam Cg where
  r := cgZ
  n := 5
  hn := fun _ => rfl
  mono := fun hz ⟨sv, e, o, z⟩ => ⟨sv, e, Sl.fam prF o hz, fun c hc => hz _ (Nat.lt_of_le_of_lt (root_le _ c) (o.blk c hc).2) (z c hc)⟩
  extC := fun {Z b h h' cs x} nz x' ⟨sv, e, o, z⟩ => ⟨sv, e, Sl.famC prF o x' nz (Apart.of fun c hc q => nz (by rw [← q]; exact z c hc)), fun c hc => by unfold Heap.root; rw [x'.cls]; exact z c hc⟩

abbrev prR := prZ fun _ => True
abbrev sxR := sxZ fun _ => True
abbrev cgR := cgZ fun _ => True
end Go.Proofs.Ytooeiefgnhgbeaa

/-! What filter.Copy and subs' clone, copies tell. -/
namespace Go.Proofs.Ytooeiefgnhgbeaa
open Go.Ab

section
variable {X : XTab}

theorem flag_at {α : Type} {l : List α} {i : Nat} {p : α} (h : l[i]? = some p) : ((l.take i).map (fun x => (x, true)) ++ (l.drop i).map fun x => (x, false))[i]? = some (p, false) := by
  have hlt := (List.getElem?_eq_some_iff.1 h).1
  have e : ((l.take i).map fun x => (x, true)).length = i := by simp; omega
  rw [List.getElem?_append_right (by omega), e, Nat.sub_self, List.getElem?_map, List.getElem?_drop, Nat.add_zero, h]
  rfl
theorem flag_set {α : Type} {l : List α} {i : Nat} {p : α} (h : l[i]? = some p) : ((l.take i).map (fun x => (x, true)) ++ (l.drop i).map fun x => (x, false)).set i (p, true) = (l.take (i + 1)).map (fun x => (x, true)) ++ (l.drop (i + 1)).map fun x => (x, false) := by
  have hlt := (List.getElem?_eq_some_iff.1 h).1
  have e : ((l.take i).map fun x => (x, true)).length = i := by simp; omega
  rw [List.set_append, if_neg (by omega), e, Nat.sub_self, List.drop_eq_getElem_cons hlt, List.map_cons, List.set_cons_zero, List.take_add_one, h]
  simp

theorem filter_Copy (hX : OnlyKnown X) {h : Heap} {v : AVal} {fl : List Prd} {Z : Nat → Prop} (o : Sl (prZ Z) h v fl) (hl : fl.length ≤ 1000) (hs : ∀ p, p ∈ fl → p.set.length ≤ 1000) :
    Tells (fun q => acallX Try.prog X q F_filter_Copy [v] h) fun r h' => RowZ prF h.next h h' r fl ∧ Ext [] h h' := by
  refine R_filter_Copy _ (hX _ _ rfl) ?_
  refine Tells.prot fun Q' hQ => ?_
  unfold S_filter_Copy
  try simp
  refine Tells.copyZ (F := prF) (K := 0) o (fun _ _ _ => Nat.zero_le _) (by rfl) (by omega) (by decide) fun s1 h1 rz1 x1 => ?_
  have rf1 : RowZ (flagF prF h.next) 0 h h1 s1 ((fl.take 0).map (fun x => (x, true)) ++ (fl.drop 0).map fun x => (x, false)) := by simpa using rz1.flag (K := h.next)
  simp [rz1.len]
  refine Tells.bind (Tells.loop (fun n t g => ∃ i : Nat, t 3 = s1 ∧ t 8 = I fl.length ∧ t 9 = I i ∧ i + n = fl.length ∧ RowZ (flagF prF h.next) 0 h g s1 ((fl.take i).map (fun x => (x, true)) ++ (fl.drop i).map fun x => (x, false)) ∧ Ext [] h g)
    (Q := fun p g => p.1 = .exit 0 ∧ p.2 3 = s1 ∧ RowZ prF h.next h g s1 fl ∧ Ext [] h g) ?_ fl.length _ _ ⟨0, by simp, by simp, by simp, by omega, rf1, x1⟩) ?_
  · rintro n t g ⟨i, t3, t8, t9, hi, rz, xg⟩
    refine Tells.prot fun Q2 hQ2 => ?_
    unfold L_filter_Copy_1
    simp [t8, t9]
    refine Tells.cb (fun hc => ?_) (fun hc => ?_)
    · simp at hc
      obtain ⟨p, hp⟩ : ∃ p, fl[i]? = some p := ⟨_, List.getElem?_eq_getElem hc⟩
      have hps := hs p (List.mem_of_getElem? hp)
      have w : IntKind.i64.wrap ((i : Int) + 1) = i + 1 := wrap_id (by omega) (by omega)
      obtain ⟨b, q, B, c, q1, q2, sv, rfl, os, _⟩ := rz.at (n := 13) rfl (flag_at hp)
      have q4 := q2.cell (k := 12) (by simp [prC, vlC])
      simp [prC, vlC] at q4
      simp [J_filter_Copy_2, t3, t9, q1, q2.get, q4]
      refine Tells.copy os (by rfl) (by show p.set.length ≤ _; omega) (by decide) fun s2 g2 gs x2 w2 => ?_
      have rz2 := rz.e x2
      have ng := xg.next
      obtain ⟨b', q', B', c', v', m1, m2, m3, m4, i1, i2, ⟨sv', i3, i3', _⟩, put⟩ := rz2.set1 (n := 13) rfl (flag_at hp)
      cases q1.symm.trans i1
      subst i3
      obtain ⟨g3, p1, p2, p3⟩ := put 12 s2 (p, true) (by decide) gs.1.cells gs.1.one ⟨s2, by simp [prC, vlC], gs.1, fun d hd => by
        obtain ⟨k1, k2, k3⟩ := w2 d hd
        refine ⟨⟨?_, Nat.zero_le _⟩, fun _ => by omega⟩
        rintro ⟨d', hd', e⟩
        have k4 := (rz.1 d' hd').2.2
        rw [root_ext x2 k4] at e
        have := root_le g d'
        omega⟩
      rw [flag_set hp] at p3
      simp [p1, J_filter_Copy_3, t9, w]
      exact Tells.ok (hQ2 _ _ (.inl ⟨rfl, n - 1, by omega, i + 1, by simp [t3], by simp [t8], by simp, by omega, p3, (xg.trans x2).extC p2 m3⟩))
    · simp at hc
      have hfl : fl.take i = fl := List.take_of_length_le (by omega)
      have hfd : fl.drop i = [] := List.drop_eq_nil_of_le (by omega)
      rw [hfl, hfd] at rz
      exact Tells.ok (hQ2 _ _ (.inr ⟨by simp, rfl, by simp [t3], (by simpa using rz : RowZ (flagF prF h.next) 0 h g s1 (fl.map fun x => (x, true))).unflag, xg⟩))
  · rintro ⟨ex, t⟩ g ⟨rfl, t3, rz, xg⟩
    have t3 : t 3 = s1 := t3
    simp [J_filter_Copy_0, t3]
    exact Tells.ok (hQ _ _ ⟨rz, xg⟩)
end
end Go.Proofs.Ytooeiefgnhgbeaa

/-! What subs' clone, copies, gone, come tell. -/
namespace Go.Proofs.Ytooeiefgnhgbeaa
open Go.Ab

/-- Not too much. -/
def SzF (fl : List Prd) : Prop := fl.length ≤ 1000 ∧ ∀ p, p ∈ fl → p.set.length ≤ 1000
def SzS (l : List Sx) : Prop := l.length ≤ 1000 ∧ ∀ s, s ∈ l → SzF s.fl

def sameK (c n : Int) (x : Sx) : Bool := x.c == c && x.n == n
def ltK (c n : Int) (x : Sx) : Bool := decide (x.c < c) || (x.c == c && decide (x.n < n))
/-- The first of that client and number is another one. -/
def setF (s : Sx) : List Sx → List Sx
  | [] => []
  | x :: r => if sameK s.c s.n x = true then s :: r else x :: setF s r
def insB (s : Sx) : List Sx → List Sx
  | [] => [s]
  | x :: r => if ltK s.c s.n x = true then x :: insB s r else s :: x :: r
def comeL (l : List Sx) (s : Sx) : List Sx := if l.any (sameK s.c s.n) = true then setF s l else insB s l
def goneL (l : List Sx) (c n : Int) : List Sx := l.filter fun x => !sameK c n x
def appL (l : List Sx) (g : Cg) : List Sx := if g.gone = true then goneL l g.s.c g.s.n else comeL l g.s

theorem setF_at {s x : Sx} : ∀ {l : List Sx} {i : Nat}, (∀ y, y ∈ l.take i → sameK s.c s.n y = false) → l[i]? = some x → sameK s.c s.n x = true → setF s l = l.set i s
  | [], i, _, h, _ => by simp at h
  | y :: r, 0, _, h, hx => by
    simp at h
    subst h
    simp [setF, hx]
  | y :: r, i + 1, hn, h, hx => by
    have hy := hn y (by simp)
    simp [setF, hy]
    exact setF_at (fun z hz => hn z (by simp [hz])) (by simpa using h) hx
theorem insB_at {s : Sx} : ∀ {l : List Sx} {i : Nat}, i ≤ l.length → (∀ y, y ∈ l.take i → ltK s.c s.n y = true) → (∀ x, l[i]? = some x → ltK s.c s.n x = false) → insB s l = l.take i ++ s :: l.drop i
  | [], i, h, _, _ => by
    have : i = 0 := by simpa using h
    subst this
    rfl
  | y :: r, 0, _, _, h => by
    have := h y (by simp)
    simp [insB, this]
  | y :: r, i + 1, hl, hn, h => by
    have hy := hn y (by simp)
    simp [insB, hy]
    exact insB_at (by simpa using hl) (fun z hz => hn z (by simp [hz])) (fun x hx => h x (by simpa using hx))
theorem any_take {α : Type} {p : α → Bool} {l : List α} {i : Nat} (h : ∀ y, y ∈ l.take i → p y = false) (hi : l.length ≤ i) : l.any p = false := by
  rw [List.take_of_length_le hi] at h
  rw [List.any_eq_false]
  intro x hx
  simp [h x hx]

section
variable {X : XTab}

theorem subs_clone (hX : OnlyKnown X) {h : Heap} {fv : AVal} {s : Sx} {Z : Nat → Prop} (o : Sl (prZ Z) h fv s.fl) (sz : SzF s.fl) :
    Tells (fun q => acallX Try.prog X q F_subs_clone [.agg (sxC s fv)] h) fun r h' => ∃ v, r = .agg (sxC s v) ∧ RowZ prF h.next h h' v s.fl ∧ Ext [] h h' := by
  refine R_subs_clone _ (hX _ _ rfl) ?_
  refine Tells.prot fun Q' hQ => ?_
  unfold S_subs_clone
  simp [sxC]
  refine Tells.box rfl rfl fun h1 bs o1 x1 l1 => ?_
  have o1 : Ob h1 bs (sxC s fv) := o1
  try simp
  refine Tells.new fun h2 br o2 x2 l2 => ?_
  have o12 := o1.e x2
  have ne : bs ≠ br := by have := o1.lt; omega
  simp [o12.1, sxC]
  refine Tells.bind (filter_Copy hX ((o.ext x1).ext x2) sz.1 sz.2) ?_
  rintro v h3 ⟨rv, x3⟩
  have o13 := o12.e x3
  have o23 := o2.e x3
  try simp
  refine Tells.st1 o13 rv.2.1.cells rv.2.1.one (by simp [sxC]) fun h4 o14 x4 => ?_
  have o14 : Ob h4 bs (sxC s v) := by simpa [sxC] using o14
  have o24 := o23.ext x4 (by simpa using ne.symm)
  simp [o14.1, sxC]
  refine Tells.stN o24 (ds := sxC s v) (by rfl) (by rfl) (by simp [sxC, rv.2.1.one]) (by rfl) fun h5 o5 x5 => ?_
  have n1 := x1.next
  have n2 := x2.next
  have n3 := x3.next
  simp [C_subs_clone_0, o5.1, sxC]
  refine Tells.ok (hQ _ _ ⟨v, rfl, ((rv.low (by omega)).back (by omega)).extO x4 (by simpa using .inl o13.2.1) |>.extO x5 (by simpa using .inl o24.2.1), ?_⟩)
  have x14 : Ext [] h h4 := (((x1.trans x2).trans x3).then x4 fun z hz => .inr (by simp at hz; omega))
  exact x14.then x5 fun z hz => .inr (by simp at hz; omega)

/-- A new row's rows are of no class of an older one. -/
theorem fresh_sx {h0 g1 g2 : Heap} {s v : AVal} {x : Sx} {l : List Sx} {K : Nat} (rz : RowZ sxF K h0 g1 s l) (rv : RowZ prF g1.next g1 g2 v x.fl) (x2 : Ext [] g1 g2) (hk : K ≤ g1.next) : (sxF.r fun q => ¬ g2.isRoot s q ∧ K ≤ q).rep g2 (sxC x v) x := by
  have key : ∀ q, g1.next ≤ q → ¬ g2.isRoot s q ∧ K ≤ q := fun q hq => ⟨by
    rintro ⟨b, hb, rfl⟩
    have := root_le g2 b
    have := (rz.1 b hb).2.2
    omega, by omega⟩
  exact ⟨v, rfl, rv.2.1.fam prF fun q _ z => key q z.2, fun c hc => key _ (rv.1 c hc).1⟩

theorem subs_copies (hX : OnlyKnown X) {h : Heap} {v : AVal} {l : List Sx} {Z : Nat → Prop} (o : Sl (sxZ Z) h v l) (sz : SzS l) :
    Tells (fun q => acallX Try.prog X q F_subs_copies [v] h) fun r h' => RowZ sxF h.next h h' r l ∧ Ext [] h h' := by
  refine R_subs_copies _ (hX _ _ rfl) ?_
  refine Tells.prot fun Q' hQ => ?_
  unfold S_subs_copies
  simp [o.len]
  refine Tells.bind (Tells.loop (fun n t g => ∃ i : Nat, t 6 = v ∧ t 7 = I l.length ∧ t 8 = I i ∧ i + n = l.length ∧ RowZ sxF h.next h g (t 3) (l.take i) ∧ Ext [] h g)
    (Q := fun p g => p.1 = .exit 0 ∧ RowZ sxF h.next h g (p.2 3) l ∧ Ext [] h g) ?_ l.length _ _ ⟨0, by simp, by simp, by simp, by omega, by simpa using RowZ.nil, .refl⟩) ?_
  · rintro n t g ⟨i, t6, t7, t8, hi, rz, xg⟩
    refine Tells.prot fun Q2 hQ2 => ?_
    unfold L_subs_copies_1
    have og := o.ext xg
    have hl := sz.1
    simp [t7, t8]
    refine Tells.cb (fun hc => ?_) (fun hc => ?_)
    · simp at hc
      obtain ⟨s, hs⟩ : ∃ s, l[i]? = some s := ⟨_, List.getElem?_eq_getElem hc⟩
      obtain ⟨b, q, B, c, q1, q2, fv, rfl, of_, _⟩ := og.at (n := 4) rfl (i := (i : Int)) (by omega) (by simpa using hs)
      have w : IntKind.i64.wrap ((i : Int) + 1) = i + 1 := wrap_id (by omega) (by omega)
      have q4 := q2.lda (n := 4) rfl
      have tk : l.take (i + 1) = l.take i ++ [s] := by rw [List.take_add_one, hs]; rfl
      simp [J_subs_copies_2, t6, t8, q1, q4]
      refine Tells.newSt (ds := sxC s fv) (by rfl) (by rfl) (by rfl) (by simp [sxC, of_.one]) fun g1 bp op x1 l1 => ?_
      have rz1 := rz.e x1
      have ng := xg.next
      have n1 := x1.next
      simp [op.1, sxC]
      refine Tells.bind (subs_clone hX (s := s) (of_.ext x1) (sz.2 s (List.mem_of_getElem? hs))) ?_
      rintro _ g2 ⟨v2, rfl, rv, x2⟩
      have n2 := x2.next
      simp [sxC]
      refine Tells.appZ (rz1.e x2) (by rfl) (by rfl) (x := s) (c := sxC s v2) (fresh_sx rz1 rv x2 (by omega)) (by rfl) (by rfl) (by simp; omega) (by decide) (by omega) fun s4 g4 rz4 x4 y4 => ?_
      simp [J_subs_copies_3, t8, w]
      exact Tells.ok (hQ2 _ _ (.inl ⟨rfl, n - 1, by omega, i + 1, by simp [t6], by simp [t7], by simp, by omega, by rw [tk]; simpa using rz4, y4 [] ((xg.trans x1).trans x2)⟩))
    · simp at hc
      have hfl : l.take i = l := List.take_of_length_le (by omega)
      rw [hfl] at rz
      exact Tells.ok (hQ2 _ _ (.inr ⟨by simp, rfl, by simpa using rz, xg⟩))
  · rintro ⟨ex, t⟩ g ⟨rfl, rz, xg⟩
    simp [J_subs_copies_0]
    exact Tells.ok (hQ _ _ ⟨by simpa using rz, xg⟩)

theorem subs_gone (hX : OnlyKnown X) {h : Heap} {v : AVal} {l : List Sx} {K : Nat} {Z : Nat → Prop} (o : Sl (sxZ Z) h v l) (hz : ∀ q, q < h.next → Z q → K ≤ q) (hl : l.length ≤ 1000) (cl nu : Int) :
    Tells (fun q => acallX Try.prog X q F_subs_gone [v, I cl, I nu] h) fun r h' => RowZ sxF K h h' r (goneL l cl nu) ∧ Ext [] h h' := by
  refine R_subs_gone _ _ _ (hX _ _ rfl) ?_
  refine Tells.prot fun Q' hQ => ?_
  unfold S_subs_gone
  have o1 : Sl (sxZ fun q => K ≤ q ∧ q < h.next) h v l := o.fam sxF fun q hq k => ⟨hz q hq k, hq⟩
  simp [o.len]
  refine Tells.bind (Tells.loop (fun n t g => ∃ i : Nat, t 1 = I cl ∧ t 2 = I nu ∧ t 10 = v ∧ t 11 = I l.length ∧ t 12 = I i ∧ i + n = l.length ∧ RowZ sxF K h g (t 7) (goneL (l.take i) cl nu) ∧ Ext [] h g)
    (Q := fun p g => p.1 = .exit 0 ∧ RowZ sxF K h g (p.2 7) (goneL l cl nu) ∧ Ext [] h g) ?_ l.length _ _ ⟨0, by simp, by simp, by simp, by simp, by simp, by omega, by simpa [goneL] using RowZ.nil, .refl⟩) ?_
  · rintro n t g ⟨i, t1, t2, t10, t11, t12, hi, rz, xg⟩
    refine Tells.prot fun Q2 hQ2 => ?_
    unfold L_subs_gone_1
    have og := o1.ext xg
    simp [t11, t12]
    refine Tells.cb (fun hc => ?_) (fun hc => ?_)
    · simp at hc
      obtain ⟨s, hs⟩ : ∃ s, l[i]? = some s := ⟨_, List.getElem?_eq_getElem hc⟩
      obtain ⟨b, q, B, c, q1, q2, fv, rfl, of_, zf⟩ := og.at (n := 4) rfl (i := (i : Int)) (by omega) (by simpa using hs)
      have w : IntKind.i64.wrap ((i : Int) + 1) = i + 1 := wrap_id (by omega) (by omega)
      have q4 := q2.lda (n := 4) rfl
      have tk : goneL (l.take (i + 1)) cl nu = goneL (l.take i) cl nu ++ (if sameK cl nu s = true then [] else [s]) := by
        rw [List.take_add_one, hs]
        unfold goneL
        rw [List.filter_append]
        congr 1
        cases hk : sameK cl nu s <;> simp [hk]
      have len2 : (goneL (l.take i) cl nu).length ≤ l.length := by
        refine Nat.le_trans (List.length_filter_le _ _) ?_
        simp; omega
      simp [J_subs_gone_2, t10, t12, q1, q4]
      refine Tells.newSt (ds := sxC s fv) (by rfl) (by rfl) (by rfl) (by simp [sxC, of_.one]) fun g1 bp op x1 l1 => ?_
      have rz1 := rz.e x1
      have ng := xg.next
      have n1 := x1.next
      have nx : ∀ t' : T, t' 1 = I cl → t' 2 = I nu → t' 10 = v → t' 11 = I l.length → t' 12 = I i → t' 7 = t 7 → sameK cl nu s = true →
          Tells (fun m => J_subs_gone_3 Try.prog (acallX Try.prog X m) m okK t' g1) Q2 := fun t' a1 a2 a10 a11 a12 a7 e => by
        simp [J_subs_gone_3, a12, w]
        exact Tells.ok (hQ2 _ _ (.inl ⟨rfl, n - 1, by omega, i + 1, by simp [a1], by simp [a2], by simp [a10], by simp [a11], by simp, by omega, by rw [tk, if_pos e]; simpa [a7] using rz1, xg.trans x1⟩))
      have put : ∀ t' : T, t' 1 = I cl → t' 2 = I nu → t' 10 = v → t' 11 = I l.length → t' 12 = I i → sameK cl nu s = false → ∀ s4 g4, RowZ sxF K h g4 s4 (goneL (l.take i) cl nu ++ [s]) → Ext [] h g4 → t' 7 = s4 →
          Tells (fun m => J_subs_gone_3 Try.prog (acallX Try.prog X m) m okK t' g4) Q2 := fun t' a1 a2 a10 a11 a12 e s4 g4 rz4 x4 a7 => by
        simp [J_subs_gone_3, a12, w]
        exact Tells.ok (hQ2 _ _ (.inl ⟨rfl, n - 1, by omega, i + 1, by simp [a1], by simp [a2], by simp [a10], by simp [a11], by simp, by omega, by rw [tk, if_neg (by simp [e])]; simpa [a7] using rz4, x4⟩))
      have rep : (sxF.r fun q => ¬ g1.isRoot (t 7) q ∧ K ≤ q).rep g1 (sxC s fv) s := by
        have r0 : (sxZ fun q => K ≤ q ∧ q < h.next).rep g (sxC s fv) s := ⟨fv, rfl, of_, zf⟩
        refine sxF.mono (fun q _ z => ⟨?_, z.1⟩) (Rp.ext _ r0 x1)
        rintro ⟨b, hb, rfl⟩
        have := (rz1.1 b hb).1
        omega
      by_cases c1 : s.c = cl
      · subst c1
        by_cases c2 : s.n = nu
        · have e : sameK s.c nu s = true := by simp [sameK, c2]
          simp [op.1, sxC, t1, t2, c2]
          exact nx _ (by simp [t1]) (by simp [t2]) (by simp [t10]) (by simp [t11]) (by simp [t12]) (by simp) e
        · have e : sameK s.c nu s = false := by simp [sameK, c2]
          have e2 : (s.n != nu) = true := by simp [c2]
          simp [op.1, sxC, t1, t2, e2]
          refine Tells.appZ rz1 (by rfl) (by rfl) (x := s) (c := sxC s fv) rep (by rfl) (by rfl) (by omega) (by decide) (by omega) fun s4 g4 rz4 x4 y4 => ?_
          exact put _ (by simp [t1]) (by simp [t2]) (by simp [t10]) (by simp [t11]) (by simp [t12]) e s4 g4 rz4 (y4 [] (xg.trans x1)) (by simp)
      · have e : sameK cl nu s = false := by simp [sameK, c1]
        have e2 : (s.c != cl) = true := by simp [c1]
        simp [op.1, sxC, t1, t2, e2]
        refine Tells.appZ rz1 (by rfl) (by rfl) (x := s) (c := sxC s fv) rep (by rfl) (by rfl) (by omega) (by decide) (by omega) fun s4 g4 rz4 x4 y4 => ?_
        exact put _ (by simp [t1]) (by simp [t2]) (by simp [t10]) (by simp [t11]) (by simp [t12]) e s4 g4 rz4 (y4 [] (xg.trans x1)) (by simp)
    · simp at hc
      have hfl : l.take i = l := List.take_of_length_le (by omega)
      rw [hfl] at rz
      exact Tells.ok (hQ2 _ _ (.inr ⟨by simp, rfl, by simpa using rz, xg⟩))
  · rintro ⟨ex, t⟩ g ⟨rfl, rz, xg⟩
    simp [J_subs_gone_0]
    exact Tells.ok (hQ _ _ ⟨by simpa using rz, xg⟩)
end
end Go.Proofs.Ytooeiefgnhgbeaa

/-! What subs' come, Apply, Of, Has tell. -/
namespace Go.Proofs.Ytooeiefgnhgbeaa
open Go.Ab

section
variable {X : XTab}

theorem subs_come (hX : OnlyKnown X) {hA h : Heap} {v fv : AVal} {l : List Sx} {s : Sx} {K : Nat} (rz : RowZ sxF K hA h v l) (rs : (sxF.r fun q => ¬ h.isRoot v q ∧ K ≤ q).rep h (sxC s fv) s) (hl : l.length ≤ 1000) (hA' : hA.next ≤ h.next) :
    Tells (fun q => acallX Try.prog X q F_subs_come [v, .agg (sxC s fv)] h) fun r h' => RowZ sxF K hA h' r (comeL l s) ∧ (∀ S, Ext S hA h → Ext S hA h') := by
  refine R_subs_come _ _ (hX _ _ rfl) ?_
  refine Tells.prot fun Q' hQ => ?_
  have fk : fv.one = true ∧ fv.known = true ∧ fv.cells = [fv] := by
    obtain ⟨fv', e, o, _⟩ := rs
    have : fv = fv' := by simp [sxC] at e; exact e
    subst this
    exact ⟨o.one, o.known, o.cells⟩
  unfold S_subs_come
  simp [sxC]
  refine Tells.box rfl rfl fun h1 bs o1 x1 l1 => ?_
  have o1 : Ob h1 bs (sxC s fv) := o1
  have rz1 := rz.e x1
  have n1 := x1.next
  have rs1 : (sxF.r fun q => (¬ h1.isRoot v q ∧ K ≤ q) ∧ q < h1.next).rep h1 (sxC s fv) s := by
    have r0 := sxF.mono (Z' := fun q => (¬ h.isRoot v q ∧ K ≤ q) ∧ q < h.next) (fun q hq z => ⟨z, hq⟩) rs
    refine sxF.mono (fun q hq z => ⟨⟨?_, z.1.2⟩, by omega⟩) (Rp.ext _ r0 x1)
    rintro ⟨b, hb, rfl⟩
    exact z.1.1 ⟨b, hb, root_ext x1 (rz.1 b hb).2.2⟩
  simp [rz.len]
  refine Tells.bind (Tells.loop (fun n t g => g = h1 ∧ ∃ i : Nat, t 0 = v ∧ t 3 = .ptr bs 0 ∧ t 9 = I l.length ∧ t 10 = I i ∧ i + n = l.length ∧ ∀ y, y ∈ l.take i → sameK s.c s.n y = false)
    (Q := fun p g => (p.1 = .exit 0 ∧ g = h1 ∧ p.2 0 = v ∧ p.2 3 = .ptr bs 0 ∧ l.any (sameK s.c s.n) = false) ∨ (p.1 = .ret ∧ p.2 4 = v ∧ RowZ sxF K hA g v (comeL l s) ∧ ∀ S, Ext S hA h → Ext S hA g)) ?_ l.length _ _ ⟨rfl, 0, by simp, by simp, by simp, by simp, by omega, by simp⟩) ?_
  · rintro n t g ⟨rfl, i, t0, t3, t9, t10, hi, hno⟩
    refine Tells.prot fun Q2 hQ2 => ?_
    unfold L_subs_come_4
    simp [t9, t10]
    refine Tells.cb (fun hc => ?_) (fun hc => ?_)
    · simp at hc
      obtain ⟨x, hx⟩ : ∃ x, l[i]? = some x := ⟨_, List.getElem?_eq_getElem hc⟩
      obtain ⟨b, q, B, c, q1, q2, xv, rfl, _, _⟩ := rz1.at (n := 4) rfl hx
      have w : IntKind.i64.wrap ((i : Int) + 1) = i + 1 := wrap_id (by omega) (by omega)
      have q4 := q2.cell0 (by simp [sxC])
      have q5 := q2.cell (k := 2) (by simp [sxC])
      simp [sxC] at q4 q5
      have go : sameK s.c s.n x = false → ∀ t' : T, t' 0 = v → t' 3 = .ptr bs 0 → t' 9 = I l.length → t' 10 = I i → Tells (fun m => J_subs_come_6 Try.prog (acallX Try.prog X m) m okK t' g) Q2 := fun e t' a0 a3 a9 a10 => by
        simp [J_subs_come_6, a10, w]
        refine Tells.ok (hQ2 _ _ (.inl ⟨rfl, n - 1, by omega, rfl, i + 1, by simp [a0], by simp [a3], by simp [a9], by simp, by omega, fun y hy => ?_⟩))
        rw [List.take_add_one, hx] at hy
        rcases List.mem_append.1 hy with k | k
        · exact hno y k
        · simp at k; subst k; exact e
      by_cases c1 : x.c = s.c
      · by_cases c2 : x.n = s.n
        · have e : sameK s.c s.n x = true := by simp [sameK, c1, c2]
          have rs2 : (sxF.r fun q => ¬ g.isRoot v q ∧ K ≤ q).rep g (sxC s fv) s := sxF.mono (fun q _ z => z.1) rs1
          obtain ⟨b2, p2, v2, i1, i2, i3, i4, i5, g2, i6, i7, rz2⟩ := rz1.putE (n := 4) rfl hc rs2
          have i6' := i6 (.agg (sxC s fv)) rfl
          simp only [sxC] at i6'
          cases q1.symm.trans i5
          simp [J_subs_come_5, t0, t3, t10, q1, q2.get, q4, q5, o1.1, sxC, c1, c2, i6']
          refine Tells.ok (hQ2 _ _ (.inr ⟨by simp, .inr ⟨rfl, by simp [t0], ?_, fun S xs => (xs.trans x1.of).extC i7 i3⟩⟩))
          have : comeL l s = l.set i s := by
            unfold comeL
            rw [if_pos (List.any_eq_true.2 ⟨x, List.mem_of_getElem? hx, e⟩)]
            exact setF_at hno hx e
          rw [this]
          exact rz2
        · have e : sameK s.c s.n x = false := by simp [sameK, c2]
          simp [J_subs_come_5, t0, t3, t10, q1, q2.get, q4, q5, o1.1, sxC, c1, beq_eq_false_iff_ne.2 c2]
          exact go e _ (by simp [t0]) (by simp [t3]) (by simp [t9]) (by simp [t10])
      · have e : sameK s.c s.n x = false := by simp [sameK, c1]
        simp [J_subs_come_5, t0, t3, t10, q1, q2.get, q4, q5, o1.1, sxC, beq_eq_false_iff_ne.2 c1]
        exact go e _ (by simp [t0]) (by simp [t3]) (by simp [t9]) (by simp [t10])
    · simp at hc
      exact Tells.ok (hQ2 _ _ (.inr ⟨by simp, .inl ⟨rfl, rfl, by simp [t0], by simp [t3], any_take hno (by omega)⟩⟩))
  · rintro ⟨ex, t⟩ g (⟨rfl, rfl, t0, t3, hno⟩ | ⟨rfl, t4, rz2, X2⟩)
    · have t0 : t 0 = v := t0
      have t3 : t 3 = .ptr bs 0 := t3
      simp [J_subs_come_0]
      refine Tells.bind (Tells.loop (fun n t g' => g' = g ∧ ∃ i : Nat, t 0 = v ∧ t 3 = .ptr bs 0 ∧ t 6 = I i ∧ i + n = l.length ∧ ∀ y, y ∈ l.take i → ltK s.c s.n y = true)
        (Q := fun p g' => g' = g ∧ p.1 = .exit 2 ∧ p.2 0 = v ∧ p.2 3 = .ptr bs 0 ∧ ∃ i : Nat, p.2 6 = I i ∧ i ≤ l.length ∧ insB s l = l.take i ++ s :: l.drop i) ?_ l.length _ _ ⟨rfl, 0, by simp [t0], by simp [t3], by simp, by omega, by simp⟩) ?_
      · rintro n t g' ⟨rfl, i, t0, t3, t6, hi, hlt⟩
        refine Tells.prot fun Q2 hQ2 => ?_
        unfold L_subs_come_2
        have w : IntKind.i64.wrap ((i : Int) + 1) = i + 1 := wrap_id (by omega) (by omega)
        have stop : (∀ x, l[i]? = some x → ltK s.c s.n x = false) → ∀ t' : T, t' 0 = v → t' 3 = .ptr bs 0 → t' 6 = I i → Q2 (.exit 2, t') g' := fun e t' a0 a3 a6 => hQ2 _ _ (.inr ⟨by simp, rfl, rfl, a0, a3, i, a6, by omega, insB_at (by omega) hlt e⟩)
        by_cases hc : i < l.length
        · obtain ⟨x, hx⟩ : ∃ x, l[i]? = some x := ⟨_, List.getElem?_eq_getElem hc⟩
          obtain ⟨b, q, B, c, q1, q2, xv, rfl, _, _⟩ := rz1.at (n := 4) rfl hx
          have q4 := q2.cell0 (by simp [sxC])
          have q5 := q2.cell (k := 2) (by simp [sxC])
          simp [sxC] at q4 q5
          have hc' : ((i : Int) < (l.length : Int)) := by omega
          have go : ltK s.c s.n x = true → ∀ t' : T, t' 0 = v → t' 3 = .ptr bs 0 → t' 6 = I i → Tells (fun m => J_subs_come_3 Try.prog (acallX Try.prog X m) m okK t' g') Q2 := fun e t' a0 a3 a6 => by
            simp [J_subs_come_3, a6, w]
            refine Tells.ok (hQ2 _ _ (.inl ⟨rfl, n - 1, by omega, rfl, i + 1, by simp [a0], by simp [a3], by simp, by omega, fun y hy => ?_⟩))
            rw [List.take_add_one, hx] at hy
            rcases List.mem_append.1 hy with k | k
            · exact hlt y k
            · simp at k; subst k; exact e
          by_cases c1 : x.c < s.c
          · have e : ltK s.c s.n x = true := by simp [ltK, c1]
            simp [t0, t3, t6, rz1.len, hc, hc', q1, q2.get, q4, q5, o1.1, sxC, c1]
            exact go e _ (by simp [t0]) (by simp [t3]) (by simp [t6])
          · by_cases c2 : x.c = s.c
            · by_cases c3 : x.n < s.n
              · have e : ltK s.c s.n x = true := by simp [ltK, c2, c3]
                simp [t0, t3, t6, rz1.len, hc, hc', q1, q2.get, q4, q5, o1.1, sxC, c2, c3]
                exact go e _ (by simp [t0]) (by simp [t3]) (by simp [t6])
              · have e : ltK s.c s.n x = false := by simp [ltK, c1, c3]
                simp [t0, t3, t6, rz1.len, hc, hc', q1, q2.get, q4, q5, o1.1, sxC, c2, c3]
                exact Tells.ok (stop (fun y hy => by rw [hx] at hy; cases hy; exact e) _ (by simp [t0]) (by simp [t3]) (by simp [t6]))
            · have e : ltK s.c s.n x = false := by simp [ltK, c1, c2]
              simp [t0, t3, t6, rz1.len, hc, hc', q1, q2.get, q4, q5, o1.1, sxC, c1, beq_eq_false_iff_ne.2 c2]
              exact Tells.ok (stop (fun y hy => by rw [hx] at hy; cases hy; exact e) _ (by simp [t0]) (by simp [t3]) (by simp [t6]))
        · have hc' : ¬ ((i : Int) < (l.length : Int)) := by omega
          simp [t0, t6, rz1.len, hc, hc']
          exact Tells.ok (stop (fun x hx => by rw [List.getElem?_eq_none (by omega)] at hx; cases hx) _ (by simp [t0]) (by simp [t3]) (by simp [t6]))
      · rintro ⟨ex, t'⟩ g' ⟨rfl, rfl, a0, a3, i, a6, hi, hin⟩
        have a0 : t' 0 = v := a0
        have a3 : t' 3 = .ptr bs 0 := a3
        have a6 : t' 6 = I i := a6
        have rl : Sl (sxZ fun q => (¬ g'.isRoot v q ∧ K ≤ q) ∧ q < g'.next) g' v l := rz1.2.1.fam sxF fun q hq z => ⟨z, hq⟩
        obtain ⟨v1, u1, u2, _⟩ := rl.takeR (n := 4) rfl hi
        obtain ⟨v2, u3, u4, _⟩ := rl.dropR (n := 4) rfl hi
        simp [J_subs_come_1, a0, a6, a3, u1]
        refine Tells.copyZ (F := sxF) (K := K) u2 (fun q _ z => z.1.2) (by rfl) (by simp; omega) (by decide) fun s2 g2 r2 x2 => ?_
        have o2 := o1.e x2
        have up2 : ∀ q, q < g'.next → ¬ g2.isRoot s2 q := fun q hq => by
          rintro ⟨b, hb, rfl⟩
          have := (r2.1 b hb).1
          omega
        simp [o2.1, sxC]
        have rs2 : (sxF.r fun q => ¬ g2.isRoot s2 q ∧ K ≤ q).rep g2 (sxC s fv) s := sxF.mono (fun q hq z => ⟨up2 q z.2, z.1.2⟩) (Rp.ext _ rs1 x2)
        have n2 := x2.next
        refine Tells.appZE r2 (by rfl) (by rfl) (x := s) (c := sxC s fv) rs2 (by rfl) (by rfl) (by simp; omega) (by decide) n2 fun s3 g3 r3 x3 y3 nr3 => ?_
        have n3 := x3.next
        have u5 : Sl (sxF.r fun q => ¬ g3.isRoot s3 q ∧ K ≤ q) g3 v2 (l.drop i) := ((u4.ext x2).ext x3).fam sxF fun q _ z => ⟨nr3 q (by omega) (up2 q z.2), z.1.2⟩
        simp [u3]
        refine Tells.appNZE r3 u5 (by rfl) (by simp; omega) (by decide) (by omega) fun s4 g4 r4 x4 y4 _ => ?_
        try simp
        refine Tells.ok (hQ _ _ ⟨?_, fun S xs => ?_⟩)
        · have : comeL l s = l.take i ++ [s] ++ l.drop i := by
            unfold comeL
            rw [if_neg (by simp [hno]), hin]
            simp
          rw [this]
          exact r4.back (by omega)
        · have xs' := xs.trans x1.of
          exact xs'.trans ((y4 [] (y3 [] x2)).of)
    · have t4 : t 4 = v := t4
      simp [t4]
      exact Tells.ok (hQ _ _ ⟨rz2, X2⟩)

theorem setF_len (s : Sx) : ∀ l : List Sx, (setF s l).length = l.length
  | [] => rfl
  | x :: r => by
    unfold setF
    split
    · rfl
    · simp [setF_len s r]
theorem insB_len (s : Sx) : ∀ l : List Sx, (insB s l).length = l.length + 1
  | [] => rfl
  | x :: r => by
    unfold insB
    split
    · simp [insB_len s r]
    · rfl
theorem appL_len (l : List Sx) (g : Cg) : (appL l g).length ≤ l.length + 1 := by
  unfold appL comeL goneL
  split
  · have := List.length_filter_le (fun x => !sameK g.s.c g.s.n x) l
    omega
  · split
    · rw [setF_len]; omega
    · rw [insB_len]; exact Nat.le_refl _
theorem foldl_len : ∀ (ch : List Cg) (l : List Sx), (ch.foldl appL l).length ≤ l.length + ch.length
  | [], l => by simp
  | g :: ch, l => by
    have h1 := appL_len l g
    have h2 := foldl_len ch (appL l g)
    simp only [List.foldl_cons, List.length_cons]
    omega

theorem subs_Apply (hX : OnlyKnown X) {h : Heap} {v cv : AVal} {l : List Sx} {ch : List Cg} {Z : Nat → Prop} (o : Sl (sxZ Z) h v l) (sz : SzS l) (hl : l.length ≤ 400) (oc : Sl cgR h cv ch) (hc : ch.length ≤ 400) (sc : ∀ g, g ∈ ch → SzF g.s.fl) :
    Tells (fun q => acallX Try.prog X q F_subs_Apply [v, cv] h) fun r h' => RowZ sxF h.next h h' r (ch.foldl appL l) ∧ Ext [] h h' := by
  refine R_subs_Apply _ _ (hX _ _ rfl) ?_
  refine Tells.prot fun Q' hQ => ?_
  unfold S_subs_Apply
  try simp
  refine Tells.bind (subs_copies hX o sz) ?_
  rintro v1 h1 ⟨rz1, x1⟩
  simp [oc.len]
  refine Tells.bind (Tells.loop (fun n t g => ∃ i : Nat, t 10 = cv ∧ t 11 = I ch.length ∧ t 12 = I i ∧ i + n = ch.length ∧ RowZ sxF h.next h g (t 5) ((ch.take i).foldl appL l) ∧ Ext [] h g)
    (Q := fun p g => p.1 = .exit 0 ∧ RowZ sxF h.next h g (p.2 5) (ch.foldl appL l) ∧ Ext [] h g) ?_ ch.length _ _ ⟨0, by simp, by simp, by simp, by omega, by simpa using rz1, x1⟩) ?_
  · rintro n t g ⟨i, t10, t11, t12, hi, rz, xg⟩
    refine Tells.prot fun Q2 hQ2 => ?_
    unfold L_subs_Apply_1
    have og := oc.ext xg
    simp [t11, t12]
    refine Tells.cb (fun hc => ?_) (fun hc => ?_)
    · simp at hc
      obtain ⟨c, hcx⟩ : ∃ s, ch[i]? = some s := ⟨_, List.getElem?_eq_getElem hc⟩
      obtain ⟨b, q, B, cs, q1, q2, fv, rfl, of_, _⟩ := og.at (n := 5) rfl (i := (i : Int)) (by omega) (by simpa using hcx)
      have w : IntKind.i64.wrap ((i : Int) + 1) = i + 1 := wrap_id (by omega) (by omega)
      have q4 := q2.lda (n := 5) rfl
      have tk : (ch.take (i + 1)).foldl appL l = appL ((ch.take i).foldl appL l) c := by rw [List.take_add_one, hcx, List.foldl_append]; rfl
      have len := foldl_len (ch.take i) l
      have len2 : (ch.take i).length ≤ ch.length := by simp; omega
      simp [J_subs_Apply_2, t10, t12, q1, q4]
      refine Tells.newSt (ds := .bool c.gone :: sxC c.s fv) (by rfl) (by rfl) (by rfl) (by simp [sxC, of_.one]) fun g1 bp op x1 l1 => ?_
      have rz1 := rz.e x1
      have ng := xg.next
      have n1 := x1.next
      have XG1 := xg.trans x1
      have fin : ∀ (t' : T) (r : AVal) (g' : Heap), t' 10 = cv → t' 11 = I ch.length → t' 12 = I i → t' 5 = r → RowZ sxF h.next h g' r (appL ((ch.take i).foldl appL l) c) → Ext [] h g' → Tells (fun m => J_subs_Apply_3 Try.prog (acallX Try.prog X m) m okK t' g') Q2 := fun t' r g' a10 a11 a12 a5 r' x' => by
        simp [J_subs_Apply_3, a12, w]
        exact Tells.ok (hQ2 _ _ (.inl ⟨rfl, n - 1, by omega, i + 1, by simp [a10], by simp [a11], by simp, by omega, by rw [tk]; simpa [a5] using r', x'⟩))
      cases hg : c.gone with
      | true =>
        simp [op.1, sxC, hg]
        refine Tells.bind (subs_gone hX rz1.2.1 (K := h.next) (fun q _ z => z.2) (by omega) c.s.c c.s.n) ?_
        rintro r g2 ⟨r2, x2⟩
        try simp
        refine fin _ r g2 (by simp [t10]) (by simp [t11]) (by simp [t12]) (by simp) ?_ (XG1.trans x2)
        unfold appL
        rw [if_pos hg]
        exact r2.back (by omega)
      | false =>
        simp [op.1, sxC, hg]
        refine Tells.bind (subs_clone hX (s := c.s) (of_.ext x1) (sc c (List.mem_of_getElem? hcx))) ?_
        rintro _ g2 ⟨v2, rfl, rv, x2⟩
        have rz2 := rz1.e x2
        have n2 := x2.next
        try simp
        refine Tells.bind (subs_come hX rz2 (fresh_sx rz1 rv x2 (by omega)) (by omega) (by omega)) ?_
        rintro r g3 ⟨r3, x3⟩
        try simp
        refine fin _ r g3 (by simp [t10]) (by simp [t11]) (by simp [t12]) (by simp) ?_ (x3 [] (XG1.trans x2))
        unfold appL
        rw [if_neg (by simp [hg])]
        exact r3
    · simp at hc
      have hfl : ch.take i = ch := List.take_of_length_le (by omega)
      rw [hfl] at rz
      exact Tells.ok (hQ2 _ _ (.inr ⟨by simp, rfl, by simpa using rz, xg⟩))
  · rintro ⟨ex, t⟩ g ⟨rfl, rz, xg⟩
    simp [J_subs_Apply_0]
    exact Tells.ok (hQ _ _ ⟨by simpa using rz, xg⟩)

def ofL (l : List Sx) (c : Int) : List Sx := l.filter fun x => x.c == c
theorem subs_Of (hX : OnlyKnown X) {h : Heap} {v : AVal} {l : List Sx} {Z : Nat → Prop} (o : Sl (sxZ Z) h v l) (sz : SzS l) (cl : Int) :
    Tells (fun q => acallX Try.prog X q F_subs_Of [v, I cl] h) fun r h' => RowZ sxF h.next h h' r (ofL l cl) ∧ Ext [] h h' := by
  refine R_subs_Of _ _ (hX _ _ rfl) ?_
  refine Tells.prot fun Q' hQ => ?_
  unfold S_subs_Of
  have hl := sz.1
  simp [o.len]
  refine Tells.bind (Tells.loop (fun n t g => ∃ i : Nat, t 1 = I cl ∧ t 8 = v ∧ t 9 = I l.length ∧ t 10 = I i ∧ i + n = l.length ∧ RowZ sxF h.next h g (t 5) (ofL (l.take i) cl) ∧ Ext [] h g)
    (Q := fun p g => p.1 = .exit 0 ∧ RowZ sxF h.next h g (p.2 5) (ofL l cl) ∧ Ext [] h g) ?_ l.length _ _ ⟨0, by simp, by simp, by simp, by simp, by omega, by simpa [ofL] using RowZ.nil, .refl⟩) ?_
  · rintro n t g ⟨i, t1, t8, t9, t10, hi, rz, xg⟩
    refine Tells.prot fun Q2 hQ2 => ?_
    unfold L_subs_Of_1
    have og := o.ext xg
    simp [t9, t10]
    refine Tells.cb (fun hc => ?_) (fun hc => ?_)
    · simp at hc
      obtain ⟨s, hs⟩ : ∃ s, l[i]? = some s := ⟨_, List.getElem?_eq_getElem hc⟩
      obtain ⟨b, q, B, c, q1, q2, fv, rfl, of_, _⟩ := og.at (n := 4) rfl (i := (i : Int)) (by omega) (by simpa using hs)
      have w : IntKind.i64.wrap ((i : Int) + 1) = i + 1 := wrap_id (by omega) (by omega)
      have q4 := q2.lda (n := 4) rfl
      have tk : ofL (l.take (i + 1)) cl = ofL (l.take i) cl ++ (if s.c = cl then [s] else []) := by
        rw [List.take_add_one, hs]
        unfold ofL
        rw [List.filter_append]
        congr 1
        by_cases e : s.c = cl <;> simp [e]
      have len2 : (ofL (l.take i) cl).length ≤ l.length := by
        refine Nat.le_trans (List.length_filter_le _ _) ?_
        simp; omega
      simp [J_subs_Of_2, t8, t10, q1, q4]
      refine Tells.newSt (ds := sxC s fv) (by rfl) (by rfl) (by rfl) (by simp [sxC, of_.one]) fun g1 bp op x1 l1 => ?_
      have rz1 := rz.e x1
      have ng := xg.next
      have n1 := x1.next
      by_cases e : s.c = cl
      · simp [op.1, sxC, t1, e]
        have hcl : (AVal.agg [I cl, I s.b, I s.n, fv]) = .agg (sxC s fv) := by rw [← e]; rfl
        rw [hcl]
        refine Tells.bind (subs_clone hX (s := s) (of_.ext x1) (sz.2 s (List.mem_of_getElem? hs))) ?_
        rintro _ g2 ⟨v2, rfl, rv, x2⟩
        have n2 := x2.next
        try simp [sxC]
        refine Tells.appZ (rz1.e x2) (by rfl) (by rfl) (x := s) (c := sxC s v2) (fresh_sx rz1 rv x2 (by omega)) (by rfl) (by rfl) (by omega) (by decide) (by omega) fun s4 g4 rz4 x4 y4 => ?_
        simp [J_subs_Of_3, t10, w]
        exact Tells.ok (hQ2 _ _ (.inl ⟨rfl, n - 1, by omega, i + 1, by simp [t1], by simp [t8], by simp [t9], by simp, by omega, by rw [tk, if_pos e]; simpa using rz4, y4 [] ((xg.trans x1).trans x2)⟩))
      · simp [op.1, sxC, t1, beq_eq_false_iff_ne.2 e, J_subs_Of_3, t10, w]
        exact Tells.ok (hQ2 _ _ (.inl ⟨rfl, n - 1, by omega, i + 1, by simp [t1], by simp [t8], by simp [t9], by simp, by omega, by rw [tk, if_neg e]; simpa using rz1, xg.trans x1⟩))
    · simp at hc
      have hfl : l.take i = l := List.take_of_length_le (by omega)
      rw [hfl] at rz
      exact Tells.ok (hQ2 _ _ (.inr ⟨by simp, rfl, by simpa using rz, xg⟩))
  · rintro ⟨ex, t⟩ g ⟨rfl, rz, xg⟩
    simp [J_subs_Of_0]
    exact Tells.ok (hQ _ _ ⟨by simpa using rz, xg⟩)

theorem subs_Has (hX : OnlyKnown X) {h : Heap} {v : AVal} {l : List Sx} {Z : Nat → Prop} (o : Sl (sxZ Z) h v l) (hl : l.length ≤ 1000) (cl nu : Int) :
    Tells (fun q => acallX Try.prog X q F_subs_Has [v, I cl, I nu] h) fun r h' => r = .bool (l.any (sameK cl nu)) ∧ Ext [] h h' := by
  refine R_subs_Has _ _ _ (hX _ _ rfl) ?_
  refine Tells.prot fun Q' hQ => ?_
  unfold S_subs_Has
  simp [o.len]
  refine Tells.bind (Tells.loop (fun n t g => ∃ i : Nat, t 1 = I cl ∧ t 2 = I nu ∧ t 9 = v ∧ t 10 = I l.length ∧ t 11 = I i ∧ i + n = l.length ∧ (∀ y, y ∈ l.take i → sameK cl nu y = false) ∧ Ext [] h g)
    (Q := fun p g => ((p.1 = .exit 0 ∧ l.any (sameK cl nu) = false) ∨ (p.1 = .ret ∧ p.2 6 = .bool true ∧ l.any (sameK cl nu) = true)) ∧ Ext [] h g) ?_ l.length _ _ ⟨0, by simp, by simp, by simp, by simp, by simp, by omega, by simp, .refl⟩) ?_
  · rintro n t g ⟨i, t1, t2, t9, t10, t11, hi, hno, xg⟩
    refine Tells.prot fun Q2 hQ2 => ?_
    unfold L_subs_Has_1
    have og := o.ext xg
    simp [t10, t11]
    refine Tells.cb (fun hc => ?_) (fun hc => ?_)
    · simp at hc
      obtain ⟨s, hs⟩ : ∃ s, l[i]? = some s := ⟨_, List.getElem?_eq_getElem hc⟩
      obtain ⟨b, q, B, c, q1, q2, fv, rfl, of_, _⟩ := og.at (n := 4) rfl (i := (i : Int)) (by omega) (by simpa using hs)
      have w : IntKind.i64.wrap ((i : Int) + 1) = i + 1 := wrap_id (by omega) (by omega)
      have q4 := q2.lda (n := 4) rfl
      simp [J_subs_Has_2, t9, t11, q1, q4]
      refine Tells.newSt (ds := sxC s fv) (by rfl) (by rfl) (by rfl) (by simp [sxC, of_.one]) fun g1 bp op x1 l1 => ?_
      have go : sameK cl nu s = false → ∀ t' : T, t' 1 = I cl → t' 2 = I nu → t' 9 = v → t' 10 = I l.length → t' 11 = I i → Tells (fun m => J_subs_Has_3 Try.prog (acallX Try.prog X m) m okK t' g1) Q2 := fun e t' a1 a2 a9 a10 a11 => by
        simp [J_subs_Has_3, a11, w]
        refine Tells.ok (hQ2 _ _ (.inl ⟨rfl, n - 1, by omega, i + 1, by simp [a1], by simp [a2], by simp [a9], by simp [a10], by simp, by omega, fun y hy => ?_, xg.trans x1⟩))
        rw [List.take_add_one, hs] at hy
        rcases List.mem_append.1 hy with k | k
        · exact hno y k
        · simp at k; subst k; exact e
      by_cases c1 : s.c = cl
      · by_cases c2 : s.n = nu
        · have e : sameK cl nu s = true := by simp [sameK, c1, c2]
          simp [op.1, sxC, t1, t2, c1, c2]
          exact Tells.ok (hQ2 _ _ (.inr ⟨by simp, .inr ⟨rfl, by simp, List.any_eq_true.2 ⟨s, List.mem_of_getElem? hs, e⟩⟩, xg.trans x1⟩))
        · have e : sameK cl nu s = false := by simp [sameK, c2]
          simp [op.1, sxC, t1, t2, c1, beq_eq_false_iff_ne.2 c2]
          exact go e _ (by simp [t1]) (by simp [t2]) (by simp [t9]) (by simp [t10]) (by simp [t11])
      · have e : sameK cl nu s = false := by simp [sameK, c1]
        simp [op.1, sxC, t1, t2, beq_eq_false_iff_ne.2 c1]
        exact go e _ (by simp [t1]) (by simp [t2]) (by simp [t9]) (by simp [t10]) (by simp [t11])
    · simp at hc
      exact Tells.ok (hQ2 _ _ (.inr ⟨by simp, .inl ⟨rfl, any_take hno (by omega)⟩, xg⟩))
  · rintro ⟨ex, t⟩ g ⟨⟨rfl, hno⟩ | ⟨rfl, t6, hyes⟩, xg⟩
    · simp [J_subs_Has_0]
      exact Tells.ok (hQ _ _ ⟨by rw [hno], xg⟩)
    · have t6 : t 6 = .bool true := t6
      simp [t6]
      exact Tells.ok (hQ _ _ ⟨by rw [hyes], xg⟩)
end
end Go.Proofs.Ytooeiefgnhgbeaa

/-! The plain law of SubsMap: right subscriptions are a map of client and number. -/
namespace Go.Proofs.Ytooeiefgnhgbeaa
open Go.Ab

def kLt (s t : Sx) : Prop := s.c < t.c ∨ (s.c = t.c ∧ s.n < t.n)
abbrev Srt (l : List Sx) : Prop := l.Pairwise kLt
theorem sameK_iff {c n : Int} {x : Sx} : sameK c n x = true ↔ x.c = c ∧ x.n = n := by simp [sameK]
theorem sameK_no {c n : Int} {x : Sx} : sameK c n x = false ↔ ¬ (x.c = c ∧ x.n = n) := by
  rw [← sameK_iff]; simp
theorem kLt_ne {s t : Sx} (h : kLt s t) : ¬ (t.c = s.c ∧ t.n = s.n) := by unfold kLt at h; omega
theorem kLt_trans {s t u : Sx} (h : kLt s t) (k : kLt t u) : kLt s u := by unfold kLt at *; omega

theorem mem_gone {l : List Sx} {c n : Int} {y : Sx} : y ∈ goneL l c n ↔ y ∈ l ∧ sameK c n y = false := by simp [goneL]
theorem mem_ins {s y : Sx} : ∀ {l : List Sx}, y ∈ insB s l ↔ y = s ∨ y ∈ l
  | [] => by simp [insB]
  | x :: r => by
    unfold insB
    split
    · rw [List.mem_cons, mem_ins, List.mem_cons]
      constructor
      · rintro (h | h | h)
        · exact .inr (.inl h)
        · exact .inl h
        · exact .inr (.inr h)
      · rintro (h | h | h)
        · exact .inr (.inl h)
        · exact .inl h
        · exact .inr (.inr h)
    · simp
theorem mem_set {s y : Sx} : ∀ {l : List Sx}, Srt l → l.any (sameK s.c s.n) = true → (y ∈ setF s l ↔ y = s ∨ (y ∈ l ∧ sameK s.c s.n y = false))
  | [], _, h => by simp at h
  | x :: r, hs, h => by
    obtain ⟨h1, h2⟩ := List.pairwise_cons.1 hs
    unfold setF
    cases hx : sameK s.c s.n x with
    | true =>
      rw [if_pos rfl, List.mem_cons]
      have kx := sameK_iff.1 hx
      constructor
      · rintro (q | q)
        · exact .inl q
        · refine .inr ⟨by simp [q], sameK_no.2 fun k => kLt_ne (h1 y q) ⟨by omega, by omega⟩⟩
      · rintro (q | ⟨q, k⟩)
        · exact .inl q
        · rcases List.mem_cons.1 q with q | q
          · subst q; rw [hx] at k; cases k
          · exact .inr q
    | false =>
      rw [if_neg (by simp), List.mem_cons, mem_set h2 (by simpa [hx] using h), List.mem_cons]
      constructor
      · rintro (q | q | ⟨q, k⟩)
        · exact .inr ⟨.inl q, by rw [q]; exact hx⟩
        · exact .inl q
        · exact .inr ⟨.inr q, k⟩
      · rintro (q | ⟨q | q, k⟩)
        · exact .inr (.inl q)
        · exact .inl q
        · exact .inr (.inr ⟨q, k⟩)
theorem mem_come {l : List Sx} {s y : Sx} (hs : Srt l) : y ∈ comeL l s ↔ y = s ∨ (y ∈ l ∧ sameK s.c s.n y = false) := by
  unfold comeL
  by_cases h : l.any (sameK s.c s.n) = true
  · rw [if_pos h]; exact mem_set hs h
  · rw [if_neg h, mem_ins]
    have : ∀ z, z ∈ l → sameK s.c s.n z = false := fun z hz => by
      cases k : sameK s.c s.n z with
      | false => rfl
      | true => exact absurd (List.any_eq_true.2 ⟨z, hz, k⟩) h
    constructor
    · rintro (q | q)
      · exact .inl q
      · exact .inr ⟨q, this y q⟩
    · rintro (q | q)
      · exact .inl q
      · exact .inr q.1

theorem Srt.gone {l : List Sx} (h : Srt l) (c n : Int) : Srt (goneL l c n) := h.filter _
theorem Srt.set {s : Sx} : ∀ {l : List Sx}, Srt l → Srt (setF s l)
  | [], _ => by simp [setF]
  | x :: r, h => by
    obtain ⟨h1, h2⟩ := List.pairwise_cons.1 h
    unfold setF
    cases hx : sameK s.c s.n x with
    | true =>
      rw [if_pos rfl]
      have kx := sameK_iff.1 hx
      refine List.pairwise_cons.2 ⟨fun y hy => ?_, h2⟩
      have := h1 y hy
      unfold kLt at *; omega
    | false =>
      rw [if_neg (by simp)]
      refine List.pairwise_cons.2 ⟨fun y hy => ?_, Srt.set h2⟩
      by_cases ha : r.any (sameK s.c s.n) = true
      · rcases (mem_set h2 ha).1 hy with q | q
        · subst q
          obtain ⟨z, hz, kz⟩ := List.any_eq_true.1 ha
          have := h1 z hz
          have kz := sameK_iff.1 kz
          unfold kLt at *; omega
        · exact h1 y q.1
      · have e : ∀ {r : List Sx}, ¬ r.any (sameK s.c s.n) = true → setF s r = r := by
          intro r
          induction r with
          | nil => intro _; rfl
          | cons z r ih =>
            intro hn
            simp only [List.any_cons, Bool.or_eq_true, not_or] at hn
            unfold setF
            rw [if_neg hn.1, ih hn.2]
        rw [e ha] at hy
        exact h1 y hy
theorem Srt.ins {s : Sx} : ∀ {l : List Sx}, Srt l → (∀ y, y ∈ l → sameK s.c s.n y = false) → Srt (insB s l)
  | [], _, _ => by simp [insB]
  | x :: r, h, hn => by
    obtain ⟨h1, h2⟩ := List.pairwise_cons.1 h
    have kx := sameK_no.1 (hn x (by simp))
    unfold insB
    by_cases hx : ltK s.c s.n x = true
    · rw [if_pos hx]
      refine List.pairwise_cons.2 ⟨fun y hy => ?_, Srt.ins h2 fun y hy => hn y (by simp [hy])⟩
      rcases mem_ins.1 hy with q | q
      · subst q
        simp [ltK] at hx
        unfold kLt; omega
      · exact h1 y q
    · rw [if_neg hx]
      simp [ltK] at hx
      have sx : kLt s x := by unfold kLt; omega
      refine List.pairwise_cons.2 ⟨fun y hy => ?_, h⟩
      rcases List.mem_cons.1 hy with q | q
      · subst q; exact sx
      · exact kLt_trans sx (h1 y q)
theorem Srt.come {l : List Sx} (h : Srt l) (s : Sx) : Srt (comeL l s) := by
  unfold comeL
  by_cases k : l.any (sameK s.c s.n) = true
  · rw [if_pos k]; exact h.set
  · rw [if_neg k]
    refine h.ins fun y hy => ?_
    cases q : sameK s.c s.n y with
    | false => rfl
    | true => exact absurd (List.any_eq_true.2 ⟨y, hy, q⟩) k
theorem Srt.app {l : List Sx} (h : Srt l) (g : Cg) : Srt (appL l g) := by
  unfold appL
  split
  · exact h.gone _ _
  · exact h.come _
theorem Srt.fold : ∀ (ch : List Cg) {l : List Sx}, Srt l → Srt (ch.foldl appL l)
  | [], _, h => h
  | g :: ch, _, h => Srt.fold ch (h.app g)
theorem mem_app {l : List Sx} {g : Cg} {y : Sx} (hs : Srt l) (h : y ∈ appL l g) : y ∈ l ∨ y = g.s := by
  unfold appL at h
  split at h
  · exact .inl (mem_gone.1 h).1
  · rcases (mem_come hs).1 h with q | q
    · exact .inr q
    · exact .inl q.1
theorem mem_fold {P : Sx → Prop} : ∀ (ch : List Cg) {l : List Sx}, Srt l → (∀ y, y ∈ l → P y) → (∀ g, g ∈ ch → P g.s) → ∀ y, y ∈ ch.foldl appL l → P y
  | [], _, _, h, _, y, hy => h y hy
  | g :: ch, l, hs, h, hc, y, hy => mem_fold ch (hs.app g) (fun z hz => by
      rcases mem_app hs hz with q | q
      · exact h z q
      · rw [q]; exact hc g (by simp)) (fun g' hg' => hc g' (by simp [hg'])) y hy

/-- Is there one of that client and number, and which? -/
def Kn21 (c n : Int) (st : Bool × Sx) (l : List Sx) : Prop := st.1 = l.any (sameK c n) ∧ ∀ y, y ∈ l → sameK c n y = true → st.2 = y
def step21 (c n : Int) (st : Bool × Sx) (g : Cg) : Bool × Sx := if sameK c n g.s = true then (!g.gone, g.s) else st
theorem any_of {p : Sx → Bool} {l m : List Sx} (h : ∀ y, p y = true → (y ∈ l ↔ y ∈ m)) : l.any p = m.any p := by
  rw [Bool.eq_iff_iff, List.any_eq_true, List.any_eq_true]
  constructor
  · rintro ⟨y, h1, h2⟩; exact ⟨y, (h y h2).1 h1, h2⟩
  · rintro ⟨y, h1, h2⟩; exact ⟨y, (h y h2).2 h1, h2⟩
theorem Kn21.step {c n : Int} {st : Bool × Sx} {l : List Sx} (k : Kn21 c n st l) (hs : Srt l) (g : Cg) : Kn21 c n (step21 c n st g) (appL l g) := by
  obtain ⟨k1, k2⟩ := k
  unfold step21 appL
  cases hg : sameK c n g.s with
  | true =>
    have kg := sameK_iff.1 hg
    rw [if_pos rfl]
    cases hgo : g.gone with
    | true =>
      rw [if_pos rfl, kg.1, kg.2]
      refine ⟨?_, fun y hy ky => ?_⟩
      · symm
        show List.any _ _ = false
        rw [List.any_eq_false]
        intro y hy
        rw [(mem_gone.1 hy).2]
        simp
      · rw [(mem_gone.1 hy).2] at ky; cases ky
    | false =>
      rw [if_neg (by simp)]
      refine ⟨?_, fun y hy ky => ?_⟩
      · symm
        exact List.any_eq_true.2 ⟨g.s, (mem_come hs).2 (.inl rfl), hg⟩
      · rcases (mem_come hs).1 hy with q | ⟨_, q⟩
        · exact q.symm
        · rw [kg.1, kg.2, ky] at q; cases q
  | false =>
    have ng := sameK_no.1 hg
    rw [if_neg (by simp)]
    have key : ∀ y, sameK c n y = true → (y ∈ l ↔ y ∈ (if g.gone = true then goneL l g.s.c g.s.n else comeL l g.s)) := fun y ky => by
      have ky' := sameK_iff.1 ky
      have no : sameK g.s.c g.s.n y = false := sameK_no.2 fun q => ng ⟨by omega, by omega⟩
      split
      · rw [mem_gone]; exact ⟨fun q => ⟨q, no⟩, fun q => q.1⟩
      · rw [mem_come hs]
        constructor
        · exact fun q => .inr ⟨q, no⟩
        · rintro (q | q)
          · subst q; exact absurd ky' ng
          · exact q.1
    exact ⟨by rw [k1]; exact any_of key, fun y hy ky => k2 y ((key y ky).2 hy) ky⟩

/-- The last one of a row that has it. -/
def lastS (c n : Int) (x : Sx) (l : List Sx) : Sx := l.foldl (fun x s => if sameK c n s = true then s else x) x
theorem lastS_none {c n : Int} : ∀ {l : List Sx} {x : Sx}, (∀ y, y ∈ l → sameK c n y = false) → lastS c n x l = x
  | [], _, _ => rfl
  | y :: l, x, h => by
    unfold lastS
    rw [List.foldl_cons, if_neg (by simp [h y])]
    exact lastS_none fun z hz => h z (by simp [hz])
theorem lastS_mem {c n : Int} : ∀ {l : List Sx} {x y : Sx}, Srt l → y ∈ l → sameK c n y = true → lastS c n x l = y
  | [], _, _, _, h, _ => by simp at h
  | z :: l, x, y, hs, hy, ky => by
    obtain ⟨h1, h2⟩ := List.pairwise_cons.1 hs
    unfold lastS
    rw [List.foldl_cons]
    rcases List.mem_cons.1 hy with q | q
    · subst q
      rw [if_pos ky]
      refine lastS_none fun w hw => ?_
      have := kLt_ne (h1 w hw)
      have k := sameK_iff.1 ky
      exact sameK_no.2 fun q => this ⟨by omega, by omega⟩
    · exact lastS_mem h2 q ky
theorem Kn21.start {l : List Sx} (hs : Srt l) (c n : Int) (x : Sx) : Kn21 c n (l.any (sameK c n), lastS c n x l) l := ⟨rfl, fun y hy ky => lastS_mem hs hy ky⟩

/-! ### how many -/
def keyI (i : Nat) : Sx → Bool := sameK ((i / 9 : Nat) + 1 : Int) ((i % 9 : Nat) + 1 : Int)
def cnt21 (l : List Sx) (j : Nat) : Nat := (List.range j).countP fun i => l.any (keyI i)
theorem cnt21_succ (l : List Sx) (j : Nat) : cnt21 l (j + 1) = cnt21 l j + if l.any (keyI j) = true then 1 else 0 := by
  unfold cnt21
  rw [List.range_succ, List.countP_append, List.countP_cons, List.countP_nil]
  simp
theorem one54 : ∀ k, k < 54 → ((List.range 54).countP fun i => i == k) = 1 := by decide
theorem cnt21_len : ∀ {l : List Sx}, Srt l → (∀ s, s ∈ l → 1 ≤ s.c ∧ s.c ≤ 6 ∧ 1 ≤ s.n ∧ s.n ≤ 9) → cnt21 l 54 = l.length
  | [], _, _ => by
    unfold cnt21
    simp
  | x :: r, hs, h => by
    obtain ⟨h1, h2⟩ := List.pairwise_cons.1 hs
    have ih := cnt21_len h2 fun s hs => h s (by simp [hs])
    obtain ⟨a1, a2, a3, a4⟩ := h x (by simp)
    unfold cnt21 at *
    have split : ∀ (L : List Nat), L.countP (fun i => keyI i x || r.any (keyI i)) = L.countP (fun i => keyI i x) + L.countP fun i => r.any (keyI i) := by
      intro L
      induction L with
      | nil => rfl
      | cons i L ihL =>
        simp only [List.countP_cons, ihL]
        cases p : keyI i x with
        | false => simp only [Bool.false_or, Bool.false_eq_true, if_false]; omega
        | true =>
          have : r.any (keyI i) = false := by
            rw [List.any_eq_false]
            intro y hy
            have k1 := sameK_iff.1 p
            have k2 := kLt_ne (h1 y hy)
            simp only [keyI, Bool.not_eq_true]
            exact sameK_no.2 fun q => k2 ⟨by omega, by omega⟩
          rw [this]; simp; omega
    have e : (List.range 54).countP (fun i => keyI i x) = 1 := by
      rw [← one54 (9 * (x.c - 1).toNat + (x.n - 1).toNat) (by omega)]
      refine List.countP_congr fun i hi => ?_
      have hi := List.mem_range.1 hi
      rw [keyI, sameK_iff, beq_iff_eq]
      constructor
      · intro q; omega
      · intro q; omega
    have e0 : (List.range 54).countP (fun i => (x :: r).any (keyI i)) = (List.range 54).countP (fun i => keyI i x || r.any (keyI i)) := by simp only [List.any_cons]
    rw [e0, split, ih, e, List.length_cons]
    omega
end Go.Proofs.Ytooeiefgnhgbeaa

/-! Values compared as structs. -/
namespace Go.Proofs.Ytooeiefgnhgbeaa
open Go Go.Ab

theorem aPure_eqFlt {P : Program} {t : TypeId} {k : FloatKind} (h : P.underlying t = some (.float k)) (d : Nat) (a b : Nat) : aPure P (Op.equalIn (d + 1) t (.float k a) (.float k b)) = some (Op.floatEq k a b) := by
  simp only [Op.equalIn, aPure_bind, aPure_und h, Option.bind_some]
  simp [aPure_pure]
theorem aPure_eqStr {P : Program} {t : TypeId} (h : P.underlying t = some .string) (d : Nat) (a b : ByteArray) : aPure P (Op.equalIn (d + 1) t (.string a) (.string b)) = some (a == b) := by
  simp only [Op.equalIn, aPure_bind, aPure_und h, Option.bind_some]
  simp [aPure_pure]
theorem aPure_eqBool {P : Program} {t : TypeId} (h : P.underlying t = some .bool) (d : Nat) (a b : Bool) : aPure P (Op.equalIn (d + 1) t (.bool a) (.bool b)) = some (a == b) := by
  simp only [Op.equalIn, aPure_bind, aPure_und h, Option.bind_some]
  simp [aPure_pure]
theorem aPure_partF {P : Program} {t : TypeId} {k : FloatKind} (h : P.underlying t = some (.float k)) {cs : Array Value} {off : Nat} {v : Value} (hv : cs[off]? = some v) : aPure P (part t cs off) = some v := by
  simp only [part, isAgg, aPure_bind, aPure_und h, Option.bind_some]
  simp [aPure_pure, hv]
theorem aPure_partS {P : Program} {t : TypeId} (h : P.underlying t = some .string) {cs : Array Value} {off : Nat} {v : Value} (hv : cs[off]? = some v) : aPure P (part t cs off) = some v := by
  simp only [part, isAgg, aPure_bind, aPure_und h, Option.bind_some]
  simp [aPure_pure, hv]
theorem aPure_partB {P : Program} {t : TypeId} (h : P.underlying t = some .bool) {cs : Array Value} {off : Nat} {v : Value} (hv : cs[off]? = some v) : aPure P (part t cs off) = some v := by
  simp only [part, isAgg, aPure_bind, aPure_und h, Option.bind_some]
  simp [aPure_pure, hv]
def vlV (v : Vl) : Value := .agg #[.int .i64 v.k, .int .i64 v.n, .float .f64 v.x, .string v.s, .bool v.b]
def eqVl (v w : Vl) : Bool := v.k == w.k && (v.n == w.n && (Op.floatEq .f64 v.x w.x && (v.s == w.s && v.b == w.b)))
theorem aPure_eq5 {P : Program} {t t0 t1 t2 t3 t4 : TypeId} {f0 f1 f2 f3 f4 : Field} (hu : P.underlying t = some (.struct #[f0, f1, f2, f3, f4])) (e0 : f0.name ≠ "_" ∧ f0.type = t0 ∧ f0.offset = 0) (e1 : f1.name ≠ "_" ∧ f1.type = t1 ∧ f1.offset = 1) (e2 : f2.name ≠ "_" ∧ f2.type = t2 ∧ f2.offset = 2)
    (e3 : f3.name ≠ "_" ∧ f3.type = t3 ∧ f3.offset = 3) (e4 : f4.name ≠ "_" ∧ f4.type = t4 ∧ f4.offset = 4) (u0 : P.underlying t0 = some (.int .i64)) (u1 : P.underlying t1 = some (.int .i64)) (u2 : P.underlying t2 = some (.float .f64)) (u3 : P.underlying t3 = some .string) (u4 : P.underlying t4 = some .bool)
    (hs : P.stoodInHeld t = false) (d : Nat) (v w : Vl) : aPure P (Op.equalIn (d + 2) t (vlV v) (vlV w)) = some (eqVl v w) := by
  obtain ⟨n0, y0, o0⟩ := e0
  obtain ⟨n1, y1, o1⟩ := e1
  obtain ⟨n2, y2, o2⟩ := e2
  obtain ⟨n3, y3, o3⟩ := e3
  obtain ⟨n4, y4, o4⟩ := e4
  unfold vlV
  rw [Op.equalIn]
  simp only [aPure_bind, aPure_und hu, aPure_prog, Option.bind_some, hs]
  have p0 : ∀ x : Vl, aPure P (part t0 #[.int .i64 x.k, .int .i64 x.n, .float .f64 x.x, .string x.s, .bool x.b] 0) = some (.int .i64 x.k) := fun x => aPure_part u0 rfl
  have p1 : ∀ x : Vl, aPure P (part t1 #[.int .i64 x.k, .int .i64 x.n, .float .f64 x.x, .string x.s, .bool x.b] 1) = some (.int .i64 x.n) := fun x => aPure_part u1 rfl
  have p2 : ∀ x : Vl, aPure P (part t2 #[.int .i64 x.k, .int .i64 x.n, .float .f64 x.x, .string x.s, .bool x.b] 2) = some (.float .f64 x.x) := fun x => aPure_partF u2 rfl
  have p3 : ∀ x : Vl, aPure P (part t3 #[.int .i64 x.k, .int .i64 x.n, .float .f64 x.x, .string x.s, .bool x.b] 3) = some (.string x.s) := fun x => aPure_partS u3 rfl
  have p4 : ∀ x : Vl, aPure P (part t4 #[.int .i64 x.k, .int .i64 x.n, .float .f64 x.x, .string x.s, .bool x.b] 4) = some (.bool x.b) := fun x => aPure_partB u4 rfl
  have q0 := fun x y => aPure_eqInt u0 d x y
  have q1 := fun x y => aPure_eqInt u1 d x y
  have q2 := fun x y => aPure_eqFlt u2 d x y
  have q3 := fun x y => aPure_eqStr u3 d x y
  have q4 := fun x y => aPure_eqBool u4 d x y
  unfold eqVl
  cases c0 : (v.k == w.k)
  · simp [n0, y0, o0, aPure_bind, aPure_pure, p0, q0, c0]
  cases c1 : (v.n == w.n)
  · simp [n0, y0, o0, n1, y1, o1, aPure_bind, aPure_pure, p0, q0, c0, p1, q1, c1]
  cases c2 : (Op.floatEq .f64 v.x w.x)
  · simp [n0, y0, o0, n1, y1, o1, n2, y2, o2, aPure_bind, aPure_pure, p0, q0, c0, p1, q1, c1, p2, q2, c2]
  cases c3 : (v.s == w.s)
  · simp [n0, y0, o0, n1, y1, o1, n2, y2, o2, n3, y3, o3, aPure_bind, aPure_pure, p0, q0, c0, p1, q1, c1, p2, q2, c2, p3, q3, c3]
  cases c4 : (v.b == w.b)
  · simp [n0, y0, o0, n1, y1, o1, n2, y2, o2, n3, y3, o3, n4, y4, o4, aPure_bind, aPure_pure, p0, q0, c0, p1, q1, c1, p2, q2, c2, p3, q3, c3, p4, q4, c4]
  · simp [n0, y0, o0, n1, y1, o1, n2, y2, o2, n3, y3, o3, n4, y4, o4, aPure_bind, aPure_pure, p0, q0, c0, p1, q1, c1, p2, q2, c2, p3, q3, c3, p4, q4, c4]
theorem aBin_eqlV {P : Program} {t : TypeId} (h : ∀ v w, aPure P (Op.equal t (vlV v) (vlV w)) = some (eqVl v w)) (hg : P.eqGuardType P.depth t = false) (x y : Operand) (v w : Vl) : aBin P .eql t x y (.agg (vlC v)) (.agg (vlC w)) = some (.bool (eqVl v w)) := by
  have gd : aPure P (eqGuard .eql t x y (vlV v) (vlV w)) = some () := by
    simp only [vlV, eqGuard, Bool.not_true, Bool.false_eq_true, if_false, aPure_bind, aPure_prog, Option.bind_some, hg]
    rfl
  have bn : aPure P (binOp .eql t (vlV v) (vlV w)) = some (.bool (eqVl v w)) := by
    show aPure P (Op.equal t (vlV v) (vlV w) >>= fun r => pure (Value.bool r)) = _
    rw [aPure_bind, h v w]
    rfl
  have v1 : ∀ v : Vl, (AVal.agg (vlC v)).toV = some (vlV v) := fun v => rfl
  simp only [aBin, v1, aPure_bind, gd, bn, Option.bind_some]
  rfl
theorem bytesBeq (a b : ByteArray) : (a == b) = (a.toList == b.toList) := by
  rw [Bool.eq_iff_iff, Go.MapKept.bytes_beq, beq_iff_eq, ByteArray.toList_eq, ByteArray.toList_eq]
  exact ⟨fun h => by rw [h], fun h => Go.WideShapes.bytes_inj h⟩
theorem eqVl_eq (v w : Vl) : eqVl v w = (v.k == w.k && (v.n == w.n && (ford v.x w.x == some .eq && (v.s.toList == w.s.toList && v.b == w.b)))) := by
  unfold eqVl
  rw [bytesBeq]
  rfl
end Go.Proofs.Ytooeiefgnhgbeaa

/-! When values are the same, and right. -/
namespace Go.Proofs.Ytooeiefgnhgbeaa
open Go.Ab

section
variable {X : XTab}

def sameV (v w : Vl) : Bool := v.k == w.k && v.n == w.n && v.s.toList == w.s.toList && v.b == w.b && bitsF v.x == bitsF w.x

theorem sameV_self (v : Vl) : sameV v v = true := by simp [sameV]

def vl0 : Vl := ⟨0, 0, 0, bs [], false⟩

def x0B (v : Vl) : Bool := ford v.x 0 == some .eq

def s0B (v : Vl) : Bool := v.s.toList == (bs []).toList

def rightV (v : Vl) : Bool := if v.k = 1 then x0B v && (s0B v && !v.b) else if v.k = 2 then v.n == 0 && (s0B v && !v.b) else if v.k = 3 then v.n == 0 && (x0B v && (!v.b && decide (v.s.size ≤ 12))) else if v.k = 4 then v.n == 0 && (x0B v && s0B v) else false

theorem s0_size {v : Vl} (h : s0B v = true) : v.s.size = 0 := by
  have : v.s.toList = (bs []).toList := by simpa [s0B] using h
  rw [ByteArray.toList_eq, ByteArray.toList_eq] at this
  have := Go.WideShapes.bytes_inj this
  rw [this]; rfl

theorem eq54 : ∀ v w : Vl, aPure Try.prog (Op.equal 54 (vlV v) (vlV w)) = some (eqVl v w) := fun v w =>
  aPure_eq5 (t0 := 3) (t1 := 2) (t2 := 52) (t3 := 9) (t4 := 4) Try.underlying54 ⟨by decide, rfl, rfl⟩ ⟨by decide, rfl, rfl⟩ ⟨by decide, rfl, rfl⟩ ⟨by decide, rfl, rfl⟩ ⟨by decide, rfl, rfl⟩ Try.underlying3 Try.underlying2 Try.underlying52 Try.underlying9 Try.underlying4 (by kernel_rfl) 9998 v w

theorem guard54 : Try.prog.eqGuardType Try.prog.depth 54 = false := by kernel_rfl

theorem zero54 (x y : Operand) (n : Int) (f : Nat) (s : ByteArray) (b : Bool) : aBin Try.prog .eql 54 x y (.agg [I 0, I n, .flt .f64 f, .str s, .bool b]) (.agg [I 0, I 0, .flt .f64 0, .str (bs []), .bool false]) = some (.bool (n == 0 && (ford f 0 == some .eq && (s.toList == (bs []).toList && !b)))) := by
  have := aBin_eqlV eq54 guard54 x y ⟨0, n, f, s, b⟩ vl0
  rw [eqVl_eq] at this
  simpa [vlC, vl0] using this

end
end Go.Proofs.Ytooeiefgnhgbeaa

/-! What float.Bits and precentorref1.Bits tell. -/
namespace Go.Proofs.Ytooeiefgnhgbeaa
open Go.Ab

section
variable {X : XTab}

theorem IsNaN_ (hX : OnlyKnown X) (x : Nat) (h : Heap) : Tells (fun q => acallX Try.prog X q F_math_IsNaN [.flt .f64 x] h) fun r h' => r = .bool (ford x x != some .eq) ∧ h' = h := by
  refine R_math_IsNaN _ (hX _ _ rfl) ?_
  unfold S_math_IsNaN
  try simp
  exact Tells.ok ⟨rfl, rfl⟩

theorem float_Bits (hX : OnlyKnown X) (x : Nat) (h : Heap) : Tells (fun q => acallX Try.prog X q F_float_Bits [.flt .f64 x] h) fun r h' => r = .int .u64 (bitsF x) ∧ h' = h := by
  refine R_float_Bits _ (hX _ _ rfl) ?_
  refine Tells.prot fun Q' hQ => ?_
  unfold S_float_Bits
  try simp
  refine Tells.bind (IsNaN_ hX x h) ?_
  rintro _ h ⟨rfl, rfl⟩
  cases h1 : (ford x x != some .eq) with
  | true =>
    try simp
    exact Tells.ok (hQ _ _ ⟨by simp [bitsF, h1], rfl⟩)
  | false =>
    cases h2 : (ford x 0 == some .eq) with
    | true =>
      simp [J_float_Bits_0, h2]
      exact Tells.ok (hQ _ _ ⟨by simp [bitsF, h1, h2], rfl⟩)
    | false =>
      simp [J_float_Bits_0, h2, J_float_Bits_1, nat_bits]
      exact Tells.ok (hQ _ _ ⟨by simp [bitsF, h1, h2], rfl⟩)

theorem float_Same (hX : OnlyKnown X) (x y : Nat) (h : Heap) : Tells (fun q => acallX Try.prog X q F_float_Same [.flt .f64 x, .flt .f64 y] h) fun r h' => r = .bool (bitsF x == bitsF y) ∧ h' = h := by
  refine R_float_Same _ _ (hX _ _ rfl) ?_
  refine Tells.prot fun Q' hQ => ?_
  unfold S_float_Same
  try simp
  refine Tells.bind (float_Bits hX x h) ?_
  rintro _ h ⟨rfl, rfl⟩
  try simp
  refine Tells.bind (float_Bits hX y h) ?_
  rintro _ h ⟨rfl, rfl⟩
  try simp
  exact Tells.ok (hQ _ _ ⟨rfl, rfl⟩)

theorem ref_Bits (hX : OnlyKnown X) (x : Nat) (h : Heap) : Tells (fun q => acallX Try.prog X q F_precentorref1_Bits [.flt .f64 x] h) fun r h' => r = .int .u64 (bitsF x) ∧ h' = h := by
  refine R_precentorref1_Bits _ (hX _ _ rfl) ?_
  refine Tells.prot fun Q' hQ => ?_
  unfold S_precentorref1_Bits
  cases h1 : (ford x x != some .eq) with
  | true =>
    simp [h1]
    exact Tells.ok (hQ _ _ ⟨by simp [bitsF, h1], rfl⟩)
  | false =>
    cases h2 : (ford x 0 == some .eq) with
    | true =>
      simp [h1, J_precentorref1_Bits_0, h2]
      exact Tells.ok (hQ _ _ ⟨by simp [bitsF, h1, h2], rfl⟩)
    | false =>
      simp [h1, J_precentorref1_Bits_0, h2, J_precentorref1_Bits_1, nat_bits]
      exact Tells.ok (hQ _ _ ⟨by simp [bitsF, h1, h2], rfl⟩)

end
end Go.Proofs.Ytooeiefgnhgbeaa

/-! What value.Same, value.Right and the document's own tell. -/
namespace Go.Proofs.Ytooeiefgnhgbeaa
open Go.Ab

section
variable {X : XTab}

theorem value_Same (hX : OnlyKnown X) (v w : Vl) (h : Heap) : Tells (fun q => acallX Try.prog X q F_value_Same [.agg (vlC v), .agg (vlC w)] h) fun r h' => r = .bool (sameV v w) ∧ Ext [] h h' := by
  refine R_value_Same _ _ (hX _ _ rfl) ?_
  refine Tells.prot fun Q' hQ => ?_
  have u4 := Try.underlying4
  unfold S_value_Same
  try simp
  refine Tells.box rfl rfl fun h1 ba oa x1 l1 => ?_
  try simp
  refine Tells.box rfl rfl fun h2 bb ob x2 l2 => ?_
  have oa2 := oa.e x2
  have x := x1.trans x2
  by_cases c1 : v.k = w.k
  · have c1' : (v.k == w.k) = true := by simp [c1]
    by_cases c2 : v.n = w.n
    · have c2' : (v.n == w.n) = true := by simp [c2]
      cases c3 : (v.s.toList == w.s.toList) with
      | true =>
        by_cases c4 : v.b = w.b
        · have c4' : (v.b == w.b) = true := by simp [c4]
          simp [oa2.1, ob.1, vlC, c1, c2, c3, c4, u4]
          refine Tells.bind (float_Same hX v.x w.x h2) ?_
          rintro _ h3 ⟨rfl, rfl⟩
          try simp
          exact Tells.ok (hQ _ _ ⟨by simp [sameV, c1', c2', c3, c4'], x⟩)
        · have c4' : (v.b == w.b) = false := beq_eq_false_iff_ne.2 c4
          simp [oa2.1, ob.1, vlC, c1, c2, c3, c4', u4]
          exact Tells.ok (hQ _ _ ⟨by simp [sameV, c1', c2', c3, c4'], x⟩)
      | false =>
        simp [oa2.1, ob.1, vlC, c1, c2, c3]
        exact Tells.ok (hQ _ _ ⟨by simp [sameV, c1', c2', c3], x⟩)
    · have c2' : (v.n == w.n) = false := beq_eq_false_iff_ne.2 c2
      simp [oa2.1, ob.1, vlC, c1, c2']
      exact Tells.ok (hQ _ _ ⟨by simp [sameV, c1', c2'], x⟩)
  · have c1' : (v.k == w.k) = false := beq_eq_false_iff_ne.2 c1
    simp [oa2.1, ob.1, vlC, c1']
    exact Tells.ok (hQ _ _ ⟨by simp [sameV, c1'], x⟩)

theorem ref_SameValue (hX : OnlyKnown X) (v w : Vl) (h : Heap) : Tells (fun q => acallX Try.prog X q F_precentorref1_SameValue [.agg (vlC v), .agg (vlC w)] h) fun r h' => r = .bool (sameV v w) ∧ Ext [] h h' := by
  refine R_precentorref1_SameValue _ _ (hX _ _ rfl) ?_
  refine Tells.prot fun Q' hQ => ?_
  have u4 := Try.underlying4
  unfold S_precentorref1_SameValue
  try simp
  refine Tells.box rfl rfl fun h1 ba oa x1 l1 => ?_
  try simp
  refine Tells.box rfl rfl fun h2 bb ob x2 l2 => ?_
  have oa2 := oa.e x2
  have x := x1.trans x2
  by_cases c1 : v.k = w.k
  · have c1' : (v.k == w.k) = true := by simp [c1]
    by_cases c2 : v.n = w.n
    · have c2' : (v.n == w.n) = true := by simp [c2]
      simp [oa2.1, ob.1, vlC, c1, c2]
      refine Tells.cbE (ref_Bits hX v.x h2) ?_
      rintro _ h2 ⟨rfl, rfl⟩
      simp [oa2.1, ob.1, vlC]
      refine Tells.cbE (ref_Bits hX w.x h2) ?_
      rintro _ h2 ⟨rfl, rfl⟩
      by_cases c5 : bitsF v.x = bitsF w.x
      · have c5' : (bitsF v.x == bitsF w.x) = true := by simp [c5]
        cases c3 : (v.s.toList == w.s.toList) with
        | true =>
          by_cases c4 : v.b = w.b
          · have c4' : (v.b == w.b) = true := by simp [c4]
            simp [oa2.1, ob.1, vlC, c5, c3, c4, u4]
            exact Tells.ok (hQ _ _ ⟨by simp [sameV, c1', c2', c3, c4', c5'], x⟩)
          · have c4' : (v.b == w.b) = false := beq_eq_false_iff_ne.2 c4
            simp [oa2.1, ob.1, vlC, c5, c3, c4', u4]
            exact Tells.ok (hQ _ _ ⟨by simp [sameV, c1', c2', c3, c4', c5'], x⟩)
        | false =>
          simp [oa2.1, ob.1, vlC, c5, c3]
          exact Tells.ok (hQ _ _ ⟨by simp [sameV, c1', c2', c3], x⟩)
      · have c5' : (bitsF v.x == bitsF w.x) = false := beq_eq_false_iff_ne.2 c5
        simp [oa2.1, ob.1, vlC, c5']
        exact Tells.ok (hQ _ _ ⟨by simp [sameV, c1', c2', c5'], x⟩)
    · have c2' : (v.n == w.n) = false := beq_eq_false_iff_ne.2 c2
      simp [oa2.1, ob.1, vlC, c1, c2']
      exact Tells.ok (hQ _ _ ⟨by simp [sameV, c1', c2'], x⟩)
  · have c1' : (v.k == w.k) = false := beq_eq_false_iff_ne.2 c1
    simp [oa2.1, ob.1, vlC, c1']
    exact Tells.ok (hQ _ _ ⟨by simp [sameV, c1'], x⟩)

theorem value_RightG (hX : OnlyKnown X) (v : Vl) (h : Heap) : Tells (fun q => acallX Try.prog X q F_value_Right [.agg (vlC v)] h) fun r h' => r = .bool (rightV v) ∧ Ext [] h h' := by
  refine R_value_Right _ (hX _ _ rfl) ?_
  refine Tells.prot fun Q' hQ => ?_
  unfold S_value_Right
  try simp
  refine Tells.box rfl rfl fun h1 bv ov x1 l1 => ?_
  try simp
  have ov : Ob h1 bv (vlC v) := ov
  simp [ov.1, vlC]
  refine Tells.newSt (ds := vlC v) (by rfl) (by rfl) (by rfl) (by rfl) fun h2 br or x2 l2 => ?_
  have ov2 := ov.e x2
  try simp
  refine Tells.st1 or (by rfl) (by rfl) (by simp [vlC]) fun h3 or3 x3 => ?_
  have hne : bv ≠ br := by have := ov.lt; omega
  have ov3 := ov2.ext x3 (by simpa using hne)
  have x03 : Ext [] h h3 := (x1.trans x2).then x3 fun z hz => .inr (by have := x1.next; simp at hz; omega)
  have fin : ∀ (g : Heap) (t : T) (n : Int) (f : Nat) (s : ByteArray) (b : Bool), t 1 = .ptr bv 0 → t 3 = .ptr br 0 → Ob g bv (vlC v) → Ob g br [I 0, I n, .flt .f64 f, .str s, .bool b] → Ext [] h g → rightV v = ((n == 0 && (ford f 0 == some .eq && (s.toList == (bs []).toList && !b))) && decide (v.s.size ≤ 12)) →
      Tells (fun m => J_value_Right_0 Try.prog (acallX Try.prog X m) m (retK Try.prog [.tmp 2]) t g) Q' := by
    intro g t n f s b t1 t3 og rg xg hr
    cases hE : (n == 0 && (ford f 0 == some .eq && (s.toList == (bs []).toList && !b))) with
    | false =>
      simp [J_value_Right_0, t1, t3, rg.1, bldR, fillR, zero54, hE]
      exact Tells.ok (hQ _ _ ⟨by rw [hr, hE]; rfl, xg⟩)
    | true =>
      simp [J_value_Right_0, t1, t3, rg.1, bldR, fillR, zero54, hE, og.1, lenS, vlC]
      exact Tells.ok (hQ _ _ ⟨by rw [hr, hE]; simp; omega, xg⟩)
  have xs : ∀ {g : Heap}, Ext [br] h3 g → Ext [] h g := fun {g} e => x03.then e fun z hz => .inr (by have := x1.next; simp at hz; omega)
  have f00 : (ford 0 0 == some .eq) = true := by decide +kernel
  have hs : (v.s.toList == (bs []).toList) = s0B v := rfl
  have hx : (ford v.x 0 == some .eq) = x0B v := rfl
  by_cases k1 : v.k = 1
  · simp [ov3.1, vlC, k1]
    refine Tells.st1 or3 (by rfl) (by rfl) (by simp [vlC]) fun h4 or4 x4 => ?_
    have ov4 := ov3.ext x4 (by simpa using hne)
    try simp
    refine fin h4 _ 0 v.x v.s v.b (by simp) (by simp) ov4 or4 (xs x4) ?_
    unfold rightV
    rw [if_pos k1, hx, hs]
    cases h : s0B v
    · simp
    · simp [s0_size h]
  have b1 : (v.k == 1) = false := beq_eq_false_iff_ne.2 k1
  by_cases k2 : v.k = 2
  · simp [ov3.1, vlC, k2]
    refine Tells.st1 or3 (by rfl) (by rfl) (by simp [vlC]) fun h4 or4 x4 => ?_
    have ov4 := ov3.ext x4 (by simpa using hne)
    try simp
    refine fin h4 _ v.n 0 v.s v.b (by simp) (by simp) ov4 or4 (xs x4) ?_
    unfold rightV
    rw [if_neg k1, if_pos k2, f00, hs]
    cases h : s0B v
    · simp
    · simp [s0_size h]
  have b2 : (v.k == 2) = false := beq_eq_false_iff_ne.2 k2
  by_cases k3 : v.k = 3
  · simp [ov3.1, vlC, k3]
    refine Tells.st1 or3 (by rfl) (by rfl) (by simp [vlC]) fun h4 or4 x4 => ?_
    have ov4 := ov3.ext x4 (by simpa using hne)
    try simp
    refine fin h4 _ v.n v.x (bs []) v.b (by simp) (by simp) ov4 or4 (xs x4) ?_
    unfold rightV
    rw [if_neg k1, if_neg k2, if_pos k3, hx]
    simp [Bool.and_assoc]
  have b3 : (v.k == 3) = false := beq_eq_false_iff_ne.2 k3
  by_cases k4 : v.k = 4
  · simp [ov3.1, vlC, k4]
    refine Tells.st1 or3 (by rfl) (by rfl) (by simp [vlC]) fun h4 or4 x4 => ?_
    have ov4 := ov3.ext x4 (by simpa using hne)
    try simp
    refine fin h4 _ v.n v.x v.s false (by simp) (by simp) ov4 or4 (xs x4) ?_
    unfold rightV
    rw [if_neg k1, if_neg k2, if_neg k3, if_pos k4, hx, hs]
    cases h : s0B v
    · simp
    · simp [s0_size h]
  have b4 : (v.k == 4) = false := beq_eq_false_iff_ne.2 k4
  simp [ov3.1, vlC, b1, b2, b3, b4]
  exact Tells.ok (hQ _ _ ⟨by unfold rightV; rw [if_neg k1, if_neg k2, if_neg k3, if_neg k4], x03⟩)

theorem ref_RightValue (hX : OnlyKnown X) (v : Vl) (h : Heap) : Tells (fun q => acallX Try.prog X q F_precentorref1_RightValue [.agg (vlC v)] h) fun r h' => r = .bool (rightV v) ∧ Ext [] h h' := by
  refine R_precentorref1_RightValue _ (hX _ _ rfl) ?_
  refine Tells.prot fun Q' hQ => ?_
  have u4 := Try.underlying4
  unfold S_precentorref1_RightValue
  try simp
  refine Tells.box rfl rfl fun h1 bv ov x1 l1 => ?_
  try simp
  have ov : Ob h1 bv (vlC v) := ov
  have hs : (v.s.toList == (bs []).toList) = s0B v := rfl
  have hx : (ford v.x 0 == some .eq) = x0B v := rfl
  unfold rightV at hQ
  by_cases k1 : v.k = 1
  · rw [if_pos k1] at hQ
    simp only [ov.1, vlC, List.getElem?_cons_zero, List.getElem?_cons_succ]
    cases c1 : x0B v <;> cases c2 : s0B v <;> cases c3 : v.b <;> simp [ov.1, vlC, k1, hs, hx, c1, c2, c3] <;> exact Tells.ok (hQ _ _ ⟨by simp [c1, c2, c3], x1⟩)
  rw [if_neg k1] at hQ
  have b1 : (v.k == 1) = false := beq_eq_false_iff_ne.2 k1
  by_cases k2 : v.k = 2
  · rw [if_pos k2] at hQ
    cases c1 : (v.n == 0) <;> cases c2 : s0B v <;> cases c3 : v.b <;> simp [ov.1, vlC, k2, hs, hx, c1, c2, c3] <;> exact Tells.ok (hQ _ _ ⟨by simp [c1, c2, c3], x1⟩)
  rw [if_neg k2] at hQ
  have b2 : (v.k == 2) = false := beq_eq_false_iff_ne.2 k2
  by_cases k3 : v.k = 3
  · rw [if_pos k3] at hQ
    cases c1 : (v.n == 0) <;> cases c2 : x0B v <;> cases c3 : v.b <;> simp [ov.1, vlC, k3, hs, hx, c1, c2, c3, lenS] <;> exact Tells.ok (hQ _ _ ⟨by simp [c1, c2, c3] <;> omega, x1⟩)
  rw [if_neg k3] at hQ
  have b3 : (v.k == 3) = false := beq_eq_false_iff_ne.2 k3
  by_cases k4 : v.k = 4
  · rw [if_pos k4] at hQ
    cases c1 : (v.n == 0) <;> cases c2 : x0B v <;> cases c3 : s0B v <;> simp [ov.1, vlC, k4, hs, hx, c1, c2, c3] <;> exact Tells.ok (hQ _ _ ⟨by simp [c1, c2, c3], x1⟩)
  rw [if_neg k4] at hQ
  have b4 : (v.k == 4) = false := beq_eq_false_iff_ne.2 k4
  simp [ov.1, vlC, b1, b2, b3, b4, J_precentorref1_RightValue_0]
  exact Tells.ok (hQ _ _ ⟨rfl, x1⟩)

end
end Go.Proofs.Ytooeiefgnhgbeaa
