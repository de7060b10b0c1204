/-
  Texts of a claim, merged: HandP, Hand0, HandF, HandW, SubR, HandX, EqW, ValD4, RefB, ValE4, SamL4, WordD, RigL4, HandG, FeedX, HandH.
-/
import Derived.MapKept
import Derived.WideShapes
import Derived.Laws.Closers25b
import Derived.Test.YtbkfamdkdjajjaaB1
import Derived.Test.YtbkfamdkdjajjaaSprecentorhand
import Derived.Test.YtbkfamdkdjajjaaB3
import Derived.Test.YtbkfamdkdjajjaaCell0
import Derived.Test.YtbkfamdkdjajjaaSmath
import Derived.Test.YtbkfamdkdjajjaaRawC
import Derived.Test.YtbkfamdkdjajjaaWrE
import Derived.Test.YtbkfamdkdjajjaaEq2
import Derived.Test.YtbkfamdkdjajjaaOps
import Derived.Test.YtbkfamdkdjajjaaBitsF
import Derived.Test.YtbkfamdkdjajjaaSprecentorref1
import Derived.Test.YtbkfamdkdjajjaaCls
import Derived.Test.YtbkfamdkdjajjaaRawD
set_option linter.unusedVariables false
set_option linter.unusedSimpArgs false
/-! What precentorhand's Pick tells. -/
namespace Go.Proofs.Ytbkfamdkdjajjaa
open Go.Ab

section
variable {X : XTab}

def pick (n m : Int) : Int := if m < 1 then 0 else if n.tmod m < 0 then n.tmod m + m else n.tmod m

theorem pick_lo (n m : Int) : 0 ≤ pick n m := by
  unfold pick
  split
  · omega
  · split
    · have := Int.lt_tmod_of_pos n (show 0 < m by omega); omega
    · omega
theorem pick_hi (n m : Int) (h : 1 ≤ m) : pick n m < m := by
  unfold pick
  have := Int.tmod_lt_of_pos n (show 0 < m by omega)
  split
  · omega
  · split <;> omega

theorem Pick (hX : OnlyKnown X) (n m : Int) (hm : In64 m) (h : Heap) : Tells (fun q => acallX Try.prog X q F_precentorhand_Pick [I n, I m] h) fun v h' => v = I (pick n m) ∧ h' = h := by
  refine R_precentorhand_Pick _ _ (hX _ _ rfl) ?_
  unfold S_precentorhand_Pick
  simp
  by_cases h1 : m < 1
  · simp [h1]
    exact Tells.ok ⟨by simp [pick, h1], rfl⟩
  · simp [h1, J_precentorhand_Pick_0, aBin_rem _ _ _ _ _ _ _ (show m ≠ 0 by omega)]
    by_cases h2 : n.tmod m < 0
    · simp [h2, J_precentorhand_Pick_1]
      refine Tells.ok ⟨?_, rfl⟩
      have := Int.lt_tmod_of_pos n (show 0 < m by omega)
      rw [wrap_id (by omega) (by have := hm.2; omega)]
      simp [pick, h1, h2]
    · simp [h2, J_precentorhand_Pick_1]
      exact Tells.ok ⟨by simp [pick, h1, h2], rfl⟩

end
end Go.Proofs.Ytbkfamdkdjajjaa

/-! What precentorhand's Next tells. -/
namespace Go.Proofs.Ytbkfamdkdjajjaa
open Go.Ab

/-- A feed of raw numbers, asked k times at most. -/
def Feed (h : Heap) (bf k : Nat) : Prop := ∃ L at_ xs, Ob h bf [L, I at_] ∧ 0 ≤ at_ ∧ at_ ≤ (k : Int) ∧ Sl intR h L xs ∧ xs.length < 2 ^ 63 ∧ ∀ c, c ∈ L.blks → c < h.n0
theorem Feed.ext {S : List Nat} {h h' : Heap} {bf k : Nat} (f : Feed h bf k) (e : Ext S h h') (hb : bf ∉ S) : Feed h' bf k := by
  obtain ⟨L, a, xs, h1, h2, h3, h4, h5, h6⟩ := f
  exact ⟨L, a, xs, h1.ext e hb, h2, h3, h4.ext e, h5, by rw [e.n0]; exact h6⟩
theorem Feed.e {h h' : Heap} {bf k : Nat} (f : Feed h bf k) (e : Ext [] h h') : Feed h' bf k := f.ext e (by simp)
theorem Feed.mono {h : Heap} {bf k k' : Nat} (f : Feed h bf k) (hk : k ≤ k') : Feed h bf k' := by
  obtain ⟨L, a, xs, h1, h2, h3, h4⟩ := f
  exact ⟨L, a, xs, h1, h2, by omega, h4⟩
theorem Feed.lt {h : Heap} {bf k : Nat} (f : Feed h bf k) : bf < h.next := by obtain ⟨L, a, xs, h1, _⟩ := f; exact h1.lt
theorem Feed.m {h : Heap} {bf k : Nat} (f : Feed h bf k) : h.isM bf = true := by obtain ⟨L, a, xs, h1, _⟩ := f; exact h1.2.1

section
variable {X : XTab}

theorem Next (hX : OnlyKnown X) (n : Int) (hn : In64 n) {h : Heap} {bf k : Nat} (f : Feed h bf k) (hk : k < 2 ^ 62) :
    Tells (fun q => acallX Try.prog X q F_precentorhand_Feed_Next [.ptr bf 0, I n] h) fun v h' => ∃ r, v = I r ∧ 0 ≤ r ∧ (1 ≤ n → r < n) ∧ (n < 1 → r = 0) ∧ Ext [bf] h h' ∧ Feed h' bf (k + 1) := by
  refine R_precentorhand_Feed_Next _ _ (hX _ _ rfl) ?_
  unfold S_precentorhand_Feed_Next
  obtain ⟨L, a, xs, h1, h2, h3, h4, h5, h6⟩ := f
  have hlen := h4.len
  by_cases hz : xs.length = 0
  · simp [h1.1, hlen, hz]
    exact Tells.ok ⟨0, rfl, by omega, fun _ => by omega, fun _ => rfl, .refl, ⟨L, a, xs, h1, h2, by omega, h4, h5, h6⟩⟩
  · have hl : (xs.length : Int) ≠ 0 := by omega
    have hl2 : ((xs.length : Int) == 0) = false := beq_eq_false_iff_ne.2 hl
    have m0 : 0 ≤ a.tmod xs.length := Int.tmod_nonneg _ h2
    have m1 : a.tmod xs.length < xs.length := Int.tmod_lt_of_pos _ (by omega)
    obtain ⟨x, hx⟩ : ∃ x, xs[(a.tmod xs.length).toNat]? = some x := ⟨_, List.getElem?_eq_getElem (by omega)⟩
    obtain ⟨b, p, B, c, q1, q2, q3⟩ := h4.at (n := 1) rfl m0 hx
    have d0 : 0 ≤ a.tdiv xs.length := Int.tdiv_nonneg h2 (by omega)
    have d1 : a.tdiv xs.length ≤ a := Int.tdiv_le_self _ h2
    have w1 : IntKind.i64.wrap (a.tdiv xs.length) = a.tdiv xs.length := wrap_id (by omega) (by omega)
    have w2 : IntKind.i64.wrap (1 + a.tdiv xs.length) = 1 + a.tdiv xs.length := wrap_id (by omega) (by omega)
    have w3 : IntKind.i64.wrap (a + 1) = a + 1 := wrap_id (by omega) (by omega)
    have q4 := q2.ld0 (x := I x) (by rw [q3]; rfl)
    obtain ⟨h', s1, s2, s3⟩ := h1.st (off := 1) (n := 1) (v := I (a + 1)) rfl rfl (by simp)
    simp only [ld1_ptr, cell_eq] at q4
    simp [h1.1, hlen, hl2, J_precentorhand_Feed_Next_0, aBin_rem _ _ _ _ _ _ _ hl, aBin_quo _ _ _ _ _ _ _ hl, q1, q4, w1, w2, aBin_quo _ _ _ _ _ _ _ (show 1 + a.tdiv xs.length ≠ 0 by omega), w3, s1]
    refine Tells.bind (Pick hX _ n hn _) ?_
    rintro v h' ⟨rfl, rfl⟩
    exact Tells.ok ⟨_, rfl, pick_lo _ _, pick_hi _ _, fun q => by simp [pick, q], s3, ⟨L, a + 1, xs, by simpa [splice] using s2, by omega, by omega, h4.ext s3, h5, by rw [s3.n0]; exact h6⟩⟩

end
end Go.Proofs.Ytbkfamdkdjajjaa

/-! What precentorhand's Float tells. -/
namespace Go.Proofs.Ytbkfamdkdjajjaa
open Go.Ab

section
variable {X : XTab}

theorem nat_bits (b : Nat) : aNat Try.prog F_math_Float64bits [.flt .f64 b] = some (.int .u64 b) := by kernel_rfl

theorem nat_frombits (n : Int) : aNat Try.prog F_math_Float64frombits [.int .u64 n] = some (.flt .f64 n.toNat) := by kernel_rfl

def fl14 : List Nat := [0, 9223372036854775808, 4607182418800017408, 4609434218613702656, 4611686018427387904, 4613937818241073152, 13830554455654793216, 4591870180066957722, 9221120237041090561, 9218868437227405312, 18442240474082181120, 4845873199050653696, 4890909195324358656, 1]

theorem Copysign0 (hX : OnlyKnown X) (h : Heap) : Tells (fun q => acallX Try.prog X q F_math_Copysign [.flt .f64 0, .flt .f64 13830554455654793216] h) fun r h' => r = .flt .f64 9223372036854775808 ∧ h' = h := by
  refine R_math_Copysign _ _ (hX _ _ rfl) ?_
  unfold S_math_Copysign
  have e1 : ∀ t x y, aBin Try.prog .andNot t x y (.int .u64 0) (.int .u64 9223372036854775808) = some (.int .u64 0) := fun t x y => by kernel_rfl
  have e2 : ∀ t x y, aBin Try.prog .and t x y (.int .u64 13830554455654793216) (.int .u64 9223372036854775808) = some (.int .u64 9223372036854775808) := fun t x y => by kernel_rfl
  have e3 : ∀ t x y, aBin Try.prog .or t x y (.int .u64 0) (.int .u64 9223372036854775808) = some (.int .u64 9223372036854775808) := fun t x y => by kernel_rfl
  have n1 := nat_bits 0
  have n2 := nat_bits 13830554455654793216
  have n3 := nat_frombits 9223372036854775808
  simp at n1 n2 n3
  simp [n1, n2, e1, e2, e3, n3]
  exact Tells.ok ⟨rfl, rfl⟩

theorem NaN_ (hX : OnlyKnown X) (h : Heap) : Tells (fun q => acallX Try.prog X q F_math_NaN [] h) fun r h' => r = .flt .f64 9221120237041090561 ∧ h' = h := by
  refine R_math_NaN (hX _ _ rfl) ?_
  unfold S_math_NaN
  have n3 := nat_frombits 9221120237041090561
  simp at n3
  simp [n3]
  exact Tells.ok ⟨rfl, rfl⟩

theorem Inf_ (hX : OnlyKnown X) (s : Int) (h : Heap) : Tells (fun q => acallX Try.prog X q F_math_Inf [I s] h) fun r h' => r = .flt .f64 (if 0 ≤ s then 9218868437227405312 else 18442240474082181120) ∧ h' = h := by
  refine R_math_Inf _ (hX _ _ rfl) ?_
  unfold S_math_Inf
  have n3 := nat_frombits 9218868437227405312
  have n4 := nat_frombits 18442240474082181120
  simp at n3 n4
  by_cases q : 0 ≤ s
  · simp [q, J_math_Inf_0, n3]
    exact Tells.ok ⟨rfl, rfl⟩
  · simp [q, J_math_Inf_0, n4]
    exact Tells.ok ⟨rfl, rfl⟩

theorem FloatH (hX : OnlyKnown X) {h : Heap} {bf k : Nat} (f : Feed h bf k) (hk : k < 2 ^ 62) :
    Tells (fun q => acallX Try.prog X q F_precentorhand_Feed_Float [.ptr bf 0] h) fun r h' => ∃ x, r = .flt .f64 x ∧ x ∈ fl14 ∧ Ext [bf] h h' ∧ Feed h' bf (k + 1) := by
  refine R_precentorhand_Feed_Float _ (hX _ _ rfl) ?_
  refine Tells.prot fun Q' hQ => ?_
  unfold S_precentorhand_Feed_Float
  try simp
  refine Tells.bind (Copysign0 hX h) ?_
  rintro _ h ⟨rfl, rfl⟩
  try simp
  refine Tells.bind (NaN_ hX h) ?_
  rintro _ h ⟨rfl, rfl⟩
  try simp
  refine Tells.bind (Inf_ hX 1 h) ?_
  rintro _ h ⟨rfl, rfl⟩
  try simp
  refine Tells.bind (Inf_ hX (-1) h) ?_
  rintro _ h ⟨rfl, rfl⟩
  simp [bldR, fillR, splice]
  refine Tells.newSt (ds := fl14.map fun x => .flt .f64 x) (by rfl) (by rfl) (by rfl) (by rfl) fun h1 bl o1 x1 l1 => ?_
  try simp
  refine Tells.bind (Next hX 14 ⟨by decide, by decide⟩ (f.e x1) hk) ?_
  rintro _ h2 ⟨r, rfl, r0, r1, _, x2, f2⟩
  have r1 := r1 (by decide)
  obtain ⟨n, rfl⟩ : ∃ n : Nat, r = n := ⟨r.toNat, by omega⟩
  have hn : n < 14 := by omega
  have hp := ixp_at (len := 14) (z := 1) (b := bl) (o := 0) hn
  rw [Nat.mul_one] at hp
  have o2 := o1.ext x2 (by have := f.lt; simp; omega)
  obtain ⟨x, hx⟩ : ∃ x, fl14[n]? = some x := ⟨_, List.getElem?_eq_getElem (by simpa [fl14] using hn)⟩
  have hx2 : (fl14.map fun x => AVal.flt .f64 x)[n]? = some (.flt .f64 x) := by rw [List.getElem?_map, hx]; rfl
  rw [Nat.zero_add] at hp
  simp only [hp, of_some, arb_val, ld1_ptr, cell_eq, o2.1, hx2, lt_eq, retK_ret, resK_tmp, resK_nil, upd_same, one_one, bind_ok']
  exact Tells.ok (hQ _ _ ⟨x, rfl, List.mem_of_getElem? hx, x1.of.then x2 fun z hz => .inl hz, f2⟩)

end
end Go.Proofs.Ytbkfamdkdjajjaa

/-! What precentorhand's Value tells. -/
namespace Go.Proofs.Ytbkfamdkdjajjaa
open Go.Ab

section
variable {X : XTab}

/-- A value: its kind, whole number, float's bits, text, bool. -/
structure Vl where
  k : Int
  n : Int
  x : Nat
  s : ByteArray
  b : Bool

def vlC (v : Vl) : List AVal := [I v.k, I v.n, .flt .f64 v.x, .str v.s, .bool v.b]

def texts6 : List ByteArray := [bs [], bs [97], bs [97, 98], bs [98], bs [98, 97], bs [116, 119, 101, 108, 118, 101, 32, 98, 121, 116, 101, 115]]

def ints6 : List Int := [-9223372036854775808, 9223372036854775807, 9007199254740992, 9007199254740993, -1, 4611686018427387904]

/-- A value that the feed tells. -/
def FedV (v : Vl) : Prop := (v.k = 1 ∧ v.x = 0 ∧ v.s = bs [] ∧ v.b = false ∧ In64 v.n) ∨ (v.k = 2 ∧ v.n = 0 ∧ v.x ∈ fl14 ∧ v.s = bs [] ∧ v.b = false) ∨
  (v.k = 3 ∧ v.n = 0 ∧ v.x = 0 ∧ v.s ∈ texts6 ∧ v.b = false) ∨ (v.k = 4 ∧ v.n = 0 ∧ v.x = 0 ∧ v.s = bs [])

theorem ValueH (hX : OnlyKnown X) {h : Heap} {bf k : Nat} (f : Feed h bf k) (hk : k < 2 ^ 61) :
    Tells (fun q => acallX Try.prog X q F_precentorhand_Feed_Value [.ptr bf 0] h) fun r h' => ∃ v, r = .agg (vlC v) ∧ FedV v ∧ Ext [bf] h h' ∧ Feed h' bf (k + 2) := by
  refine R_precentorhand_Feed_Value _ (hX _ _ rfl) ?_
  refine Tells.prot fun Q' hQ => ?_
  unfold S_precentorhand_Feed_Value
  try simp
  refine Tells.new fun h1 bv o1 x1 l1 => ?_
  have hne : bf ≠ bv := by have := f.lt; omega
  try simp
  refine Tells.bind (Next hX 8 ⟨by decide, by decide⟩ (f.e x1) (by omega)) ?_
  rintro _ h2 ⟨r, rfl, r0, r1, _, x2, f2⟩
  have o2 := o1.ext x2 (by simpa using hne.symm)
  have x02 : Ext [bf] h h2 := x1.of.then x2 fun z hz => .inl hz
  -- the end of each way
  have fin : ∀ (g : Heap) (v : Vl) (K : Nat), K ≤ k + 2 → FedV v → Ob g bv (vlC v) → Ext [bf] h g → Feed g bf K → Q' (.agg (vlC v)) g := fun g v K hK hv o x f => hQ _ _ ⟨v, rfl, hv, x, f.mono hK⟩
  have xs : ∀ {g g' : Heap}, Ext [bf] h g → Ext [bv] g g' → Ext [bf] h g' := fun a b => a.then b fun z hz => .inr (by simp at hz; omega)
  have one : ∀ (ty : Nat), (∀ h a, aLoad Try.prog h ty a = ldn 5 h a) → ∀ (t : T) (q : Bool), t 0 = .ptr bf 0 → t 2 = .ptr bv 0 → t 6 = I r → t 7 = .bool q → Tells (fun m => J_precentorhand_Feed_Value_1 Try.prog (acallX Try.prog X m) m (blkK 0 (sqK (J_precentorhand_Feed_Value_0 Try.prog (acallX Try.prog X m) m (retK Try.prog [.cell 2 ty])) (retK Try.prog [.cell 2 ty]))) t h2) Q' := by
    intro ty hty t q t0 t2 t6 t7
    unfold J_precentorhand_Feed_Value_1
    cases q with
    | true =>
      simp [t7, t0]
      refine Tells.bind (FloatH hX f2 (by omega)) ?_
      rintro _ h3 ⟨x, rfl, hx, x3, f3⟩
      have o3 := o2.ext x3 (by simpa using hne.symm)
      simp [bldR, fillR, splice, t2]
      refine Tells.stN o3 (ds := vlC ⟨2, 0, x, bs [], false⟩) (by rfl) (by rfl) (by rfl) (by rfl) fun h4 o4 x4 => ?_
      simp [t2, hty, o4.1]
      exact Tells.ok (fin h4 ⟨2, 0, x, bs [], false⟩ (k + 2) (Nat.le_refl _) (.inr (.inl ⟨rfl, rfl, hx, rfl, rfl⟩)) o4 (xs (x02.trans x3) x4) (f3.ext x4 (by simpa using hne)))
    | false =>
      by_cases c2 : r = 2
      · simp [t7, t6, c2, bldR, fillR, splice]
        refine Tells.newSt (ds := texts6.map AVal.str) (by rfl) (by rfl) (by rfl) (by rfl) fun h3 bl o3 x3 l3 => ?_
        have f3 := f2.e x3
        simp [t0]
        refine Tells.bind (Next hX 6 ⟨by decide, by decide⟩ f3 (by omega)) ?_
        rintro _ h4 ⟨u, rfl, u0, u1, _, x4, f4⟩
        have u1 := u1 (by decide)
        obtain ⟨n, rfl⟩ : ∃ n : Nat, u = n := ⟨u.toNat, by omega⟩
        have hn : n < 6 := by omega
        have hp := ixp_at (len := 6) (z := 1) (b := bl) (o := 0) hn
        rw [Nat.mul_one, Nat.zero_add] at hp
        have o4 := o3.ext x4 (by have := f2.lt; simp; omega)
        have v4 := (o2.e x3).ext x4 (by simpa using hne.symm)
        obtain ⟨s, hs⟩ : ∃ s, texts6[n]? = some s := ⟨_, List.getElem?_eq_getElem (by simpa [texts6] using hn)⟩
        have hs2 : (texts6.map AVal.str)[n]? = some (.str s) := by rw [List.getElem?_map, hs]; rfl
        simp only [hp, of_some, arb_val, ld1_ptr, cell_eq, o4.1, hs2, lt_eq]
        simp [t2]
        refine Tells.stN v4 (ds := vlC ⟨3, 0, 0, s, false⟩) (by rfl) (by rfl) (by rfl) (by rfl) fun h5 o5 x5 => ?_
        simp [t2, hty, o5.1]
        exact Tells.ok (fin h5 ⟨3, 0, 0, s, false⟩ (k + 2) (Nat.le_refl _) (.inr (.inr (.inl ⟨rfl, rfl, rfl, List.mem_of_getElem? hs, rfl⟩))) o5 (xs ((x02.quiet x3).trans x4) x5) (f4.ext x5 (by simpa using hne)))
      · have e2 : (r == 2) = false := beq_eq_false_iff_ne.2 c2
        by_cases c3 : r = 3
        · simp [t7, t6, c3, t0]
          refine Tells.bind (Next hX 2 ⟨by decide, by decide⟩ f2 (by omega)) ?_
          rintro _ h3 ⟨u, rfl, _, _, _, x3, f3⟩
          have o3 := o2.ext x3 (by simpa using hne.symm)
          simp [bldR, fillR, splice, t2]
          refine Tells.stN o3 (ds := vlC ⟨4, 0, 0, bs [], u == 1⟩) (by rfl) (by rfl) (by rfl) (by rfl) fun h4 o4 x4 => ?_
          simp [t2, hty, o4.1]
          exact Tells.ok (fin h4 ⟨4, 0, 0, bs [], u == 1⟩ (k + 2) (Nat.le_refl _) (.inr (.inr (.inr ⟨rfl, rfl, rfl, rfl⟩))) o4 (xs (x02.trans x3) x4) (f3.ext x4 (by simpa using hne)))
        · have e3 : (r == 3) = false := beq_eq_false_iff_ne.2 c3
          by_cases c4 : r = 4
          · simp [t7, t6, c4, bldR, fillR, splice]
            refine Tells.newSt (ds := ints6.map I) (by rfl) (by rfl) (by rfl) (by rfl) fun h3 bl o3 x3 l3 => ?_
            have f3 := f2.e x3
            simp [t0]
            refine Tells.bind (Next hX 6 ⟨by decide, by decide⟩ f3 (by omega)) ?_
            rintro _ h4 ⟨u, rfl, u0, u1, _, x4, f4⟩
            have u1 := u1 (by decide)
            obtain ⟨n, rfl⟩ : ∃ n : Nat, u = n := ⟨u.toNat, by omega⟩
            have hn : n < 6 := by omega
            have hp := ixp_at (len := 6) (z := 1) (b := bl) (o := 0) hn
            rw [Nat.mul_one, Nat.zero_add] at hp
            have o4 := o3.ext x4 (by have := f2.lt; simp; omega)
            have v4 := (o2.e x3).ext x4 (by simpa using hne.symm)
            obtain ⟨s, hs⟩ : ∃ s, ints6[n]? = some s := ⟨_, List.getElem?_eq_getElem (by simpa [ints6] using hn)⟩
            have hs2 : (ints6.map I)[n]? = some (I s) := by rw [List.getElem?_map, hs]; rfl
            have hin : In64 s := by
              have : s ∈ ints6 := List.mem_of_getElem? hs
              simp [ints6] at this
              unfold In64
              omega
            simp only [hp, of_some, arb_val, ld1_ptr, cell_eq, o4.1, hs2, lt_eq]
            simp [t2]
            refine Tells.stN v4 (ds := vlC ⟨1, s, 0, bs [], false⟩) (by rfl) (by rfl) (by rfl) (by rfl) fun h5 o5 x5 => ?_
            simp [t2, hty, o5.1]
            exact Tells.ok (fin h5 ⟨1, s, 0, bs [], false⟩ (k + 2) (Nat.le_refl _) (.inl ⟨rfl, rfl, rfl, rfl, hin⟩) o5 (xs ((x02.quiet x3).trans x4) x5) (f4.ext x5 (by simpa using hne)))
          · have e4 : (r == 4) = false := beq_eq_false_iff_ne.2 c4
            simp [t7, t6, e2, e3, e4, J_precentorhand_Feed_Value_0, t0]
            refine Tells.bind (Next hX 5 ⟨by decide, by decide⟩ f2 (by omega)) ?_
            rintro _ h3 ⟨u, rfl, u0, u1, _, x3, f3⟩
            have u1 := u1 (by decide)
            have o3 := o2.ext x3 (by simpa using hne.symm)
            simp [bldR, fillR, splice, t2]
            refine Tells.stN o3 (ds := vlC ⟨1, u, 0, bs [], false⟩) (by rfl) (by rfl) (by rfl) (by rfl) fun h4 o4 x4 => ?_
            simp [t2, hty, o4.1]
            have hu : In64 u := ⟨by omega, by omega⟩
            exact Tells.ok (fin h4 ⟨1, u, 0, bs [], false⟩ (k + 2) (Nat.le_refl _) (.inl ⟨rfl, rfl, rfl, rfl, hu⟩) o4 (xs (x02.trans x3) x4) (f3.ext x4 (by simpa using hne)))
  by_cases c0 : r = 0
  · subst c0
    try simp
    exact one _ C_precentorhand_Feed_Value_0 _ _ (by simp) (by simp) (by simp) (by simp; rfl)
  · have e0 : (r == 0) = false := beq_eq_false_iff_ne.2 c0
    simp [e0]
    exact one _ C_precentorhand_Feed_Value_0 _ (r == 1) (by simp) (by simp) (by simp) (by simp)

end
end Go.Proofs.Ytbkfamdkdjajjaa

/-! Tests and subscriptions in the heap. -/
namespace Go.Proofs.Ytbkfamdkdjajjaa
open Go.Ab

def vlR : Rp Vl := ⟨5, by decide, fun _ cs x => cs = vlC x, fun h => by rw [h]; rfl, fun h => by rw [h]; rfl, fun h _ => h⟩

/-- A test: name, kind, V, W, set. -/
structure Prd where
  name : ByteArray
  test : Int
  v : Vl
  w : Vl
  set : List Vl
def prC (p : Prd) (sv : AVal) : List AVal := .str p.name :: I p.test :: (vlC p.v ++ (vlC p.w ++ [sv]))
/-- A test, whose set's class began where Z says. -/
def prZ (Z : Nat → Prop) : Rp Prd where
  n := 13
  pos := by decide
  rep := fun h cs p => ∃ sv, cs = prC p sv ∧ Sl vlR h sv p.set ∧ ∀ c, c ∈ sv.blks → Z (h.root c)
  len := fun ⟨sv, e, _⟩ => by rw [e]; rfl
  one := fun ⟨sv, e, o, _⟩ => by rw [e]; simp [prC, vlC, o.one]
  ext := fun ⟨sv, e, o, z⟩ x => ⟨sv, e, o.ext x, fun c hc => by rw [root_ext x (o.blk c hc).2]; exact z c hc⟩
def prF : Fam Prd where
  r := prZ
  n := 13
  hn := fun _ => rfl
  mono := fun hz ⟨sv, e, o, z⟩ => ⟨sv, e, o, fun c hc => hz _ (Nat.lt_of_le_of_lt (root_le _ c) (o.blk c hc).2) (z c hc)⟩
  extC := fun nz x ⟨sv, e, o, z⟩ => ⟨sv, e, o.extC (fun q => q) x (Apart.of fun c hc q => nz (by rw [← q]; exact z c hc)), fun c hc => by unfold Heap.root; rw [x.cls]; exact z c hc⟩

/-- A subscription: client, broker, number, filter. -/
structure Sx where
  c : Int
  b : Int
  n : Int
  fl : List Prd
def sxC (s : Sx) (fv : AVal) : List AVal := [I s.c, I s.b, I s.n, fv]
def sxZ (Z : Nat → Prop) : Rp Sx where
  n := 4
  pos := by decide
  rep := fun h cs s => ∃ fv, cs = sxC s fv ∧ Sl (prZ Z) h fv s.fl ∧ ∀ c, c ∈ fv.blks → Z (h.root c)
  len := fun ⟨sv, e, _⟩ => by rw [e]; rfl
  one := fun ⟨sv, e, o, _⟩ => by rw [e]; simp [sxC, o.one]
  ext := fun ⟨sv, e, o, z⟩ x => ⟨sv, e, o.ext x, fun c hc => by rw [root_ext x (o.blk c hc).2]; exact z c hc⟩
def sxF : Fam Sx where
  r := sxZ
  n := 4
  hn := fun _ => rfl
  mono := fun hz ⟨sv, e, o, z⟩ => ⟨sv, e, Sl.fam prF o hz, fun c hc => hz _ (Nat.lt_of_le_of_lt (root_le _ c) (o.blk c hc).2) (z c hc)⟩
  extC := fun {Z b h h' cs x} nz x' ⟨sv, e, o, z⟩ => ⟨sv, e, Sl.famC prF o x' nz (Apart.of fun c hc q => nz (by rw [← q]; exact z c hc)), fun c hc => by unfold Heap.root; rw [x'.cls]; exact z c hc⟩

/-- A change: gone, subscription. -/
structure Cg where
  gone : Bool
  s : Sx
def cgZ (Z : Nat → Prop) : Rp Cg where
  n := 5
  pos := by decide
  rep := fun h cs x => ∃ fv, cs = .bool x.gone :: sxC x.s fv ∧ Sl (prZ Z) h fv x.s.fl ∧ ∀ c, c ∈ fv.blks → Z (h.root c)
  len := fun ⟨sv, e, _⟩ => by rw [e]; rfl
  one := fun ⟨sv, e, o, _⟩ => by rw [e]; simp [sxC, o.one]
  ext := fun ⟨sv, e, o, z⟩ x => ⟨sv, e, o.ext x, fun c hc => by rw [root_ext x (o.blk c hc).2]; exact z c hc⟩
def cgF : Fam Cg where
  r := cgZ
  n := 5
  hn := fun _ => rfl
  mono := fun hz ⟨sv, e, o, z⟩ => ⟨sv, e, Sl.fam prF o hz, fun c hc => hz _ (Nat.lt_of_le_of_lt (root_le _ c) (o.blk c hc).2) (z c hc)⟩
  extC := fun {Z b h h' cs x} nz x' ⟨sv, e, o, z⟩ => ⟨sv, e, Sl.famC prF o x' nz (Apart.of fun c hc q => nz (by rw [← q]; exact z c hc)), fun c hc => by unfold Heap.root; rw [x'.cls]; exact z c hc⟩

abbrev prR := prZ fun _ => True
abbrev sxR := sxZ fun _ => True
abbrev cgR := cgZ fun _ => True
end Go.Proofs.Ytbkfamdkdjajjaa

/-! The attributes of the feed. -/
namespace Go.Proofs.Ytbkfamdkdjajjaa
open Go.Ab

section
variable {X : XTab}

abbrev Att := ByteArray × Vl

def attC (a : Att) : List AVal := .str a.1 :: vlC a.2

def attrR : Rp Att := ⟨6, by decide, fun _ cs x => cs = attC x, fun h => by rw [h]; rfl, fun h => by rw [h]; rfl, fun h _ => h⟩

def names5 : List ByteArray := [bs [97], bs [98], bs [99], bs [100], bs [108, 111, 110, 103]]

theorem AttrsW (hX : OnlyKnown X) {h : Heap} {bf k : Nat} (f : Feed h bf k) (hk : k < 2 ^ 60) :
    Tells (fun q => acallX Try.prog X q F_precentorhand_Feed_Attrs [.ptr bf 0] h) fun r h' => ∃ ats : List Att, Gl attrR h h' r ats ∧ Wr h h' r ∧ ats.length ≤ 5 ∧ (ats.map (·.1)).Sublist names5 ∧ (∀ a, a ∈ ats → FedV a.2) ∧ Ext [bf] h h' ∧ Feed h' bf (k + 15) := by
  refine R_precentorhand_Feed_Attrs _ (hX _ _ rfl) ?_
  refine Tells.prot fun Q' hQ => ?_
  unfold S_precentorhand_Feed_Attrs
  simp [bldR, fillR, splice]
  refine Tells.newSt (ds := names5.map AVal.str) (by rfl) (by rfl) (by rfl) (by rfl) fun h1 bl o1 x1 l1 => ?_
  have hne : bf ≠ bl := by have := f.lt; omega
  try simp
  refine Tells.bind (Tells.loop (fun n t g => ∃ (i : Nat) (ats : List Att), t 0 = .ptr bf 0 ∧ t 4 = .ptr bl 0 ∧ t 5 = I i ∧ i + n = 5 ∧ Gl attrR h g (t 3) ats ∧ Wr h g (t 3) ∧ ats.length ≤ i ∧ (ats.map (·.1)).Sublist (names5.take i) ∧ (∀ a, a ∈ ats → FedV a.2) ∧ Ob g bl (names5.map AVal.str) ∧ Ext [bf] h g ∧ Feed g bf (k + 3 * i))
    (Q := fun p g => p.1 = .exit 0 ∧ ∃ ats : List Att, Gl attrR h g (p.2 3) ats ∧ Wr h g (p.2 3) ∧ ats.length ≤ 5 ∧ (ats.map (·.1)).Sublist names5 ∧ (∀ a, a ∈ ats → FedV a.2) ∧ Ext [bf] h g ∧ Feed g bf (k + 15)) ?_ 5 _ _ ?_) ?_
  · rintro n t g ⟨i, ats, t0, t4, t5, hi, ga, wa, hl, hs, hv, on, x, f⟩
    refine Tells.prot fun Q2 hQ2 => ?_
    unfold L_precentorhand_Feed_Attrs_1
    by_cases hc : i < 5
    · have w : IntKind.i64.wrap ((i : Int) + 1) = i + 1 := wrap_id (by omega) (by omega)
      have quo : ∀ t x y, aBin Try.prog .quo t x y (I i) (I 3) = some (I (IntKind.i64.wrap ((i : Int).tdiv 3))) := fun t x y => aBin_quo _ _ _ _ _ _ _ (by decide)
      simp [t5, show (i : Int) < 5 by omega, J_precentorhand_Feed_Attrs_2, t0]
      refine Tells.bind (Next hX 3 ⟨by decide, by decide⟩ f (by omega)) ?_
      rintro _ g1 ⟨r, rfl, r0, r1, _, x2, f2⟩
      have on1 := on.ext x2 (by simpa using hne.symm)
      have ga1 := ga.extO x2 (by simpa using .inl f.m)
      have htk : names5.take (i + 1) = names5.take i ++ (names5[i]?).toList := List.take_add_one
      obtain ⟨nm, hnm⟩ : ∃ s, names5[i]? = some s := ⟨_, List.getElem?_eq_getElem (by simpa [names5] using hc)⟩
      have hnm2 : (names5.map AVal.str)[i]? = some (.str nm) := by rw [List.getElem?_map, hnm]; rfl
      have hp := ixp_at (len := 5) (z := 1) (b := bl) (o := 0) hc
      rw [Nat.mul_one, Nat.zero_add] at hp
      rw [hnm] at htk
      simp [t5, quo]
      refine Tells.cb (fun hc2 => ?_) (fun hc2 => ?_)
      · simp only [t4, t5, t0, hp, of_some, obv_val, ld1_ptr, cell_eq, on1.1, hnm2, ifb_true, arbE_call, lt_eq]
        refine Tells.cbE (ValueH hX f2 (by omega)) ?_
        rintro _ g2 ⟨v, rfl, hv2, x3, f3⟩
        have on2 := on1.ext x3 (by simpa using hne.symm)
        have ga2 := ga1.extO x3 (by simpa using .inl f2.m)
        simp only [ld1_ptr, cell_eq, on2.1, hnm2, of_some, arVal_val, isV_self, Bool.and_true, ifb_true]
        have hb : bldR [.str (bs []), .int .i64 0, .int .i64 0, .flt .f64 0, .str (bs []), .bool false] [(0, 1, .str nm), (1, 5, .agg (vlC v))] = some (.agg (attC (nm, v))) := by
          simp [bldR, fillR, splice, attC, vlC]
        simp only [hb, of_some, obv_val]
        refine Tells.app1WE ga2 ((wa.ext x2).ext x3) (by rfl) (by rfl) (show attrR.rep g2 (attC (nm, v)) (nm, v) from rfl) (by rfl) (by rfl) (by omega) (by decide) ((x.trans x2).trans x3).next fun s6 h6 g6 w6 x6 y6 z6 => ?_
        have on6 := on2.ext x6 (ga2.1.ob on2)
        have f6 := f3.ext x6 (fun q => by have := (ga2.1.blk _ q).1; rw [f3.m] at this; cases this)
        simp [J_precentorhand_Feed_Attrs_3, t5, w]
        refine Tells.ok (hQ2 _ _ (.inl ⟨rfl, n - 1, by omega, i + 1, ats ++ [(nm, v)], by simp [t0], by simp [t4], by simp, by omega, by simpa using g6, by simpa using w6, by simp; omega, ?_, fun a ha => ?_, on6, y6 _ ((x.trans x2).trans x3), f6.mono (by omega)⟩))
        · rw [htk, List.map_append]
          exact hs.append (by simp)
        · rcases List.mem_append.1 ha with q | q
          · exact hv a q
          · simp at q; subst q; exact hv2
      · simp [J_precentorhand_Feed_Attrs_3, t5, w]
        refine Tells.ok (hQ2 _ _ (.inl ⟨rfl, n - 1, by omega, i + 1, ats, by simp [t0], by simp [t4], by simp, by omega, by simpa using ga1, by simpa using wa.ext x2, by omega, ?_, hv, on1, x.trans x2, f2.mono (by omega)⟩))
        rw [htk]
        exact hs.trans (List.sublist_append_left _ _)
    · have : i = 5 := by omega
      subst this
      simp [t5]
      exact Tells.ok (hQ2 _ _ (.inr ⟨by simp, rfl, ats, by simpa using ga, by simpa using wa, hl, hs, hv, x, f⟩))
  · exact ⟨0, [], by simp, by simp, by simp, by omega, by simpa using Gl.nil, fun b hb => by simp [AVal.blks] at hb, by simp, by simp, by simp, o1, x1.of, f.e x1⟩
  · rintro ⟨ex, t⟩ g ⟨rfl, ats, ga, wa, hl, hs, hv, x, f⟩
    simp [J_precentorhand_Feed_Attrs_0]
    exact Tells.ok (hQ _ _ ⟨ats, ga, wa, hl, hs, hv, x, f⟩)

theorem AttrsH (hX : OnlyKnown X) {h : Heap} {bf k : Nat} (f : Feed h bf k) (hk : k < 2 ^ 60) :
    Tells (fun q => acallX Try.prog X q F_precentorhand_Feed_Attrs [.ptr bf 0] h) fun r h' => ∃ ats : List Att, Gl attrR h h' r ats ∧ ats.length ≤ 5 ∧ (ats.map (·.1)).Sublist names5 ∧ (∀ a, a ∈ ats → FedV a.2) ∧ Ext [bf] h h' ∧ Feed h' bf (k + 15) := by
  exact (AttrsW hX f hk).mono fun _ _ ⟨ats, ga, _, q⟩ => ⟨ats, ga, q⟩

end
end Go.Proofs.Ytbkfamdkdjajjaa

/-! Values compared as structs. -/
namespace Go.Proofs.Ytbkfamdkdjajjaa
open Go Go.Ab

theorem aPure_eqFlt {P : Program} {t : TypeId} {k : FloatKind} (h : P.underlying t = some (.float k)) (d : Nat) (a b : Nat) : aPure P (Op.equalIn (d + 1) t (.float k a) (.float k b)) = some (Op.floatEq k a b) := by
  simp only [Op.equalIn, aPure_bind, aPure_und h, Option.bind_some]
  simp [aPure_pure]
theorem aPure_eqStr {P : Program} {t : TypeId} (h : P.underlying t = some .string) (d : Nat) (a b : ByteArray) : aPure P (Op.equalIn (d + 1) t (.string a) (.string b)) = some (a == b) := by
  simp only [Op.equalIn, aPure_bind, aPure_und h, Option.bind_some]
  simp [aPure_pure]
theorem aPure_eqBool {P : Program} {t : TypeId} (h : P.underlying t = some .bool) (d : Nat) (a b : Bool) : aPure P (Op.equalIn (d + 1) t (.bool a) (.bool b)) = some (a == b) := by
  simp only [Op.equalIn, aPure_bind, aPure_und h, Option.bind_some]
  simp [aPure_pure]
theorem aPure_partF {P : Program} {t : TypeId} {k : FloatKind} (h : P.underlying t = some (.float k)) {cs : Array Value} {off : Nat} {v : Value} (hv : cs[off]? = some v) : aPure P (part t cs off) = some v := by
  simp only [part, isAgg, aPure_bind, aPure_und h, Option.bind_some]
  simp [aPure_pure, hv]
theorem aPure_partS {P : Program} {t : TypeId} (h : P.underlying t = some .string) {cs : Array Value} {off : Nat} {v : Value} (hv : cs[off]? = some v) : aPure P (part t cs off) = some v := by
  simp only [part, isAgg, aPure_bind, aPure_und h, Option.bind_some]
  simp [aPure_pure, hv]
theorem aPure_partB {P : Program} {t : TypeId} (h : P.underlying t = some .bool) {cs : Array Value} {off : Nat} {v : Value} (hv : cs[off]? = some v) : aPure P (part t cs off) = some v := by
  simp only [part, isAgg, aPure_bind, aPure_und h, Option.bind_some]
  simp [aPure_pure, hv]
def vlV (v : Vl) : Value := .agg #[.int .i64 v.k, .int .i64 v.n, .float .f64 v.x, .string v.s, .bool v.b]
def eqVl (v w : Vl) : Bool := v.k == w.k && (v.n == w.n && (Op.floatEq .f64 v.x w.x && (v.s == w.s && v.b == w.b)))
theorem aPure_eq5 {P : Program} {t t0 t1 t2 t3 t4 : TypeId} {f0 f1 f2 f3 f4 : Field} (hu : P.underlying t = some (.struct #[f0, f1, f2, f3, f4])) (e0 : f0.name ≠ "_" ∧ f0.type = t0 ∧ f0.offset = 0) (e1 : f1.name ≠ "_" ∧ f1.type = t1 ∧ f1.offset = 1) (e2 : f2.name ≠ "_" ∧ f2.type = t2 ∧ f2.offset = 2)
    (e3 : f3.name ≠ "_" ∧ f3.type = t3 ∧ f3.offset = 3) (e4 : f4.name ≠ "_" ∧ f4.type = t4 ∧ f4.offset = 4) (u0 : P.underlying t0 = some (.int .i64)) (u1 : P.underlying t1 = some (.int .i64)) (u2 : P.underlying t2 = some (.float .f64)) (u3 : P.underlying t3 = some .string) (u4 : P.underlying t4 = some .bool)
    (hs : P.stoodInHeld t = false) (d : Nat) (v w : Vl) : aPure P (Op.equalIn (d + 2) t (vlV v) (vlV w)) = some (eqVl v w) := by
  obtain ⟨n0, y0, o0⟩ := e0
  obtain ⟨n1, y1, o1⟩ := e1
  obtain ⟨n2, y2, o2⟩ := e2
  obtain ⟨n3, y3, o3⟩ := e3
  obtain ⟨n4, y4, o4⟩ := e4
  unfold vlV
  rw [Op.equalIn]
  simp only [aPure_bind, aPure_und hu, aPure_prog, Option.bind_some, hs]
  have p0 : ∀ x : Vl, aPure P (part t0 #[.int .i64 x.k, .int .i64 x.n, .float .f64 x.x, .string x.s, .bool x.b] 0) = some (.int .i64 x.k) := fun x => aPure_part u0 rfl
  have p1 : ∀ x : Vl, aPure P (part t1 #[.int .i64 x.k, .int .i64 x.n, .float .f64 x.x, .string x.s, .bool x.b] 1) = some (.int .i64 x.n) := fun x => aPure_part u1 rfl
  have p2 : ∀ x : Vl, aPure P (part t2 #[.int .i64 x.k, .int .i64 x.n, .float .f64 x.x, .string x.s, .bool x.b] 2) = some (.float .f64 x.x) := fun x => aPure_partF u2 rfl
  have p3 : ∀ x : Vl, aPure P (part t3 #[.int .i64 x.k, .int .i64 x.n, .float .f64 x.x, .string x.s, .bool x.b] 3) = some (.string x.s) := fun x => aPure_partS u3 rfl
  have p4 : ∀ x : Vl, aPure P (part t4 #[.int .i64 x.k, .int .i64 x.n, .float .f64 x.x, .string x.s, .bool x.b] 4) = some (.bool x.b) := fun x => aPure_partB u4 rfl
  have q0 := fun x y => aPure_eqInt u0 d x y
  have q1 := fun x y => aPure_eqInt u1 d x y
  have q2 := fun x y => aPure_eqFlt u2 d x y
  have q3 := fun x y => aPure_eqStr u3 d x y
  have q4 := fun x y => aPure_eqBool u4 d x y
  unfold eqVl
  cases c0 : (v.k == w.k)
  · simp [n0, y0, o0, aPure_bind, aPure_pure, p0, q0, c0]
  cases c1 : (v.n == w.n)
  · simp [n0, y0, o0, n1, y1, o1, aPure_bind, aPure_pure, p0, q0, c0, p1, q1, c1]
  cases c2 : (Op.floatEq .f64 v.x w.x)
  · simp [n0, y0, o0, n1, y1, o1, n2, y2, o2, aPure_bind, aPure_pure, p0, q0, c0, p1, q1, c1, p2, q2, c2]
  cases c3 : (v.s == w.s)
  · simp [n0, y0, o0, n1, y1, o1, n2, y2, o2, n3, y3, o3, aPure_bind, aPure_pure, p0, q0, c0, p1, q1, c1, p2, q2, c2, p3, q3, c3]
  cases c4 : (v.b == w.b)
  · simp [n0, y0, o0, n1, y1, o1, n2, y2, o2, n3, y3, o3, n4, y4, o4, aPure_bind, aPure_pure, p0, q0, c0, p1, q1, c1, p2, q2, c2, p3, q3, c3, p4, q4, c4]
  · simp [n0, y0, o0, n1, y1, o1, n2, y2, o2, n3, y3, o3, n4, y4, o4, aPure_bind, aPure_pure, p0, q0, c0, p1, q1, c1, p2, q2, c2, p3, q3, c3, p4, q4, c4]
theorem aBin_eqlV {P : Program} {t : TypeId} (h : ∀ v w, aPure P (Op.equal t (vlV v) (vlV w)) = some (eqVl v w)) (hg : P.eqGuardType P.depth t = false) (x y : Operand) (v w : Vl) : aBin P .eql t x y (.agg (vlC v)) (.agg (vlC w)) = some (.bool (eqVl v w)) := by
  have gd : aPure P (eqGuard .eql t x y (vlV v) (vlV w)) = some () := by
    simp only [vlV, eqGuard, Bool.not_true, Bool.false_eq_true, if_false, aPure_bind, aPure_prog, Option.bind_some, hg]
    rfl
  have bn : aPure P (binOp .eql t (vlV v) (vlV w)) = some (.bool (eqVl v w)) := by
    show aPure P (Op.equal t (vlV v) (vlV w) >>= fun r => pure (Value.bool r)) = _
    rw [aPure_bind, h v w]
    rfl
  have v1 : ∀ v : Vl, (AVal.agg (vlC v)).toV = some (vlV v) := fun v => rfl
  simp only [aBin, v1, aPure_bind, gd, bn, Option.bind_some]
  rfl
theorem bytesBeq (a b : ByteArray) : (a == b) = (a.toList == b.toList) := by
  rw [Bool.eq_iff_iff, Go.MapKept.bytes_beq, beq_iff_eq, ByteArray.toList_eq, ByteArray.toList_eq]
  exact ⟨fun h => by rw [h], fun h => Go.WideShapes.bytes_inj h⟩
theorem eqVl_eq (v w : Vl) : eqVl v w = (v.k == w.k && (v.n == w.n && (ford v.x w.x == some .eq && (v.s.toList == w.s.toList && v.b == w.b)))) := by
  unfold eqVl
  rw [bytesBeq]
  rfl
end Go.Proofs.Ytbkfamdkdjajjaa

/-! Values: the same, right (printed by mk14.py). -/
namespace Go.Proofs.Ytbkfamdkdjajjaa
open Go.Ab

section
variable {X : XTab}

def sameV (v w : Vl) : Bool := v.k == w.k && v.n == w.n && v.s.toList == w.s.toList && v.b == w.b && bitsF v.x == bitsF w.x

theorem sameV_self (v : Vl) : sameV v v = true := by simp [sameV]

def vl0 : Vl := ⟨0, 0, 0, bs [], false⟩

def x0B (v : Vl) : Bool := ford v.x 0 == some .eq

def s0B (v : Vl) : Bool := v.s.toList == (bs []).toList

def rightV (v : Vl) : Bool := if v.k = 1 then x0B v && (s0B v && !v.b) else if v.k = 2 then v.n == 0 && (s0B v && !v.b) else if v.k = 3 then v.n == 0 && (x0B v && (!v.b && decide (v.s.size ≤ 12))) else if v.k = 4 then v.n == 0 && (x0B v && s0B v) else false

theorem s0_size {v : Vl} (h : s0B v = true) : v.s.size = 0 := by
  have : v.s.toList = (bs []).toList := by simpa [s0B] using h
  rw [ByteArray.toList_eq, ByteArray.toList_eq] at this
  have := Go.WideShapes.bytes_inj this
  rw [this]; rfl

end
end Go.Proofs.Ytbkfamdkdjajjaa

/-! precentorref1.Bits (printed by mk14.py). -/
namespace Go.Proofs.Ytbkfamdkdjajjaa
open Go.Ab

section
variable {X : XTab}

theorem ref_Bits (hX : OnlyKnown X) (x : Nat) (h : Heap) : Tells (fun q => acallX Try.prog X q F_precentorref1_Bits [.flt .f64 x] h) fun r h' => r = .int .u64 (bitsF x) ∧ h' = h := by
  refine R_precentorref1_Bits _ (hX _ _ rfl) ?_
  refine Tells.prot fun Q' hQ => ?_
  unfold S_precentorref1_Bits
  cases h1 : (ford x x != some .eq) with
  | true =>
    simp [h1]
    exact Tells.ok (hQ _ _ ⟨by simp [bitsF, h1], rfl⟩)
  | false =>
    cases h2 : (ford x 0 == some .eq) with
    | true =>
      simp [h1, J_precentorref1_Bits_0, h2]
      exact Tells.ok (hQ _ _ ⟨by simp [bitsF, h1, h2], rfl⟩)
    | false =>
      simp [h1, J_precentorref1_Bits_0, h2, J_precentorref1_Bits_1, nat_bits]
      exact Tells.ok (hQ _ _ ⟨by simp [bitsF, h1, h2], rfl⟩)

end
end Go.Proofs.Ytbkfamdkdjajjaa

/-! precentorref1's values (printed by mk14.py). -/
namespace Go.Proofs.Ytbkfamdkdjajjaa
open Go.Ab

section
variable {X : XTab}

theorem ref_SameValue (hX : OnlyKnown X) (v w : Vl) (h : Heap) : Tells (fun q => acallX Try.prog X q F_precentorref1_SameValue [.agg (vlC v), .agg (vlC w)] h) fun r h' => r = .bool (sameV v w) ∧ Ext [] h h' := by
  refine R_precentorref1_SameValue _ _ (hX _ _ rfl) ?_
  refine Tells.prot fun Q' hQ => ?_
  have u4 := Try.underlying4
  unfold S_precentorref1_SameValue
  try simp
  refine Tells.box rfl rfl fun h1 ba oa x1 l1 => ?_
  try simp
  refine Tells.box rfl rfl fun h2 bb ob x2 l2 => ?_
  have oa2 := oa.e x2
  have x := x1.trans x2
  by_cases c1 : v.k = w.k
  · have c1' : (v.k == w.k) = true := by simp [c1]
    by_cases c2 : v.n = w.n
    · have c2' : (v.n == w.n) = true := by simp [c2]
      simp [oa2.1, ob.1, vlC, c1, c2]
      refine Tells.cbE (ref_Bits hX v.x h2) ?_
      rintro _ h2 ⟨rfl, rfl⟩
      simp [oa2.1, ob.1, vlC]
      refine Tells.cbE (ref_Bits hX w.x h2) ?_
      rintro _ h2 ⟨rfl, rfl⟩
      by_cases c5 : bitsF v.x = bitsF w.x
      · have c5' : (bitsF v.x == bitsF w.x) = true := by simp [c5]
        cases c3 : (v.s.toList == w.s.toList) with
        | true =>
          by_cases c4 : v.b = w.b
          · have c4' : (v.b == w.b) = true := by simp [c4]
            simp [oa2.1, ob.1, vlC, c5, c3, c4, u4]
            exact Tells.ok (hQ _ _ ⟨by simp [sameV, c1', c2', c3, c4', c5'], x⟩)
          · have c4' : (v.b == w.b) = false := beq_eq_false_iff_ne.2 c4
            simp [oa2.1, ob.1, vlC, c5, c3, c4', u4]
            exact Tells.ok (hQ _ _ ⟨by simp [sameV, c1', c2', c3, c4', c5'], x⟩)
        | false =>
          simp [oa2.1, ob.1, vlC, c5, c3]
          exact Tells.ok (hQ _ _ ⟨by simp [sameV, c1', c2', c3], x⟩)
      · have c5' : (bitsF v.x == bitsF w.x) = false := beq_eq_false_iff_ne.2 c5
        simp [oa2.1, ob.1, vlC, c5']
        exact Tells.ok (hQ _ _ ⟨by simp [sameV, c1', c2', c5'], x⟩)
    · have c2' : (v.n == w.n) = false := beq_eq_false_iff_ne.2 c2
      simp [oa2.1, ob.1, vlC, c1, c2']
      exact Tells.ok (hQ _ _ ⟨by simp [sameV, c1', c2'], x⟩)
  · have c1' : (v.k == w.k) = false := beq_eq_false_iff_ne.2 c1
    simp [oa2.1, ob.1, vlC, c1']
    exact Tells.ok (hQ _ _ ⟨by simp [sameV, c1'], x⟩)

theorem ref_RightValue (hX : OnlyKnown X) (v : Vl) (h : Heap) : Tells (fun q => acallX Try.prog X q F_precentorref1_RightValue [.agg (vlC v)] h) fun r h' => r = .bool (rightV v) ∧ Ext [] h h' := by
  refine R_precentorref1_RightValue _ (hX _ _ rfl) ?_
  refine Tells.prot fun Q' hQ => ?_
  have u4 := Try.underlying4
  unfold S_precentorref1_RightValue
  try simp
  refine Tells.box rfl rfl fun h1 bv ov x1 l1 => ?_
  try simp
  have ov : Ob h1 bv (vlC v) := ov
  have hs : (v.s.toList == (bs []).toList) = s0B v := rfl
  have hx : (ford v.x 0 == some .eq) = x0B v := rfl
  unfold rightV at hQ
  by_cases k1 : v.k = 1
  · rw [if_pos k1] at hQ
    simp only [ov.1, vlC, List.getElem?_cons_zero, List.getElem?_cons_succ]
    cases c1 : x0B v <;> cases c2 : s0B v <;> cases c3 : v.b <;> simp [ov.1, vlC, k1, hs, hx, c1, c2, c3] <;> exact Tells.ok (hQ _ _ ⟨by simp [c1, c2, c3], x1⟩)
  rw [if_neg k1] at hQ
  have b1 : (v.k == 1) = false := beq_eq_false_iff_ne.2 k1
  by_cases k2 : v.k = 2
  · rw [if_pos k2] at hQ
    cases c1 : (v.n == 0) <;> cases c2 : s0B v <;> cases c3 : v.b <;> simp [ov.1, vlC, k2, hs, hx, c1, c2, c3] <;> exact Tells.ok (hQ _ _ ⟨by simp [c1, c2, c3], x1⟩)
  rw [if_neg k2] at hQ
  have b2 : (v.k == 2) = false := beq_eq_false_iff_ne.2 k2
  by_cases k3 : v.k = 3
  · rw [if_pos k3] at hQ
    cases c1 : (v.n == 0) <;> cases c2 : x0B v <;> cases c3 : v.b <;> simp [ov.1, vlC, k3, hs, hx, c1, c2, c3, lenS] <;> exact Tells.ok (hQ _ _ ⟨by simp [c1, c2, c3] <;> omega, x1⟩)
  rw [if_neg k3] at hQ
  have b3 : (v.k == 3) = false := beq_eq_false_iff_ne.2 k3
  by_cases k4 : v.k = 4
  · rw [if_pos k4] at hQ
    cases c1 : (v.n == 0) <;> cases c2 : x0B v <;> cases c3 : s0B v <;> simp [ov.1, vlC, k4, hs, hx, c1, c2, c3] <;> exact Tells.ok (hQ _ _ ⟨by simp [c1, c2, c3], x1⟩)
  rw [if_neg k4] at hQ
  have b4 : (v.k == 4) = false := beq_eq_false_iff_ne.2 k4
  simp [ov.1, vlC, b1, b2, b3, b4, J_precentorref1_RightValue_0]
  exact Tells.ok (hQ _ _ ⟨rfl, x1⟩)

end
end Go.Proofs.Ytbkfamdkdjajjaa

/-! precentorref1's tests and filters compared (printed by mk14.py). -/
namespace Go.Proofs.Ytbkfamdkdjajjaa
open Go.Ab

section
variable {X : XTab}

def sameL {α : Type} (f : α → α → Bool) : List α → List α → Bool
  | [], [] => true
  | x :: l, y :: m => f x y && sameL f l m
  | [], _ :: _ => false
  | _ :: _, [] => false

theorem sameL_len {α : Type} {f : α → α → Bool} : ∀ {l m : List α}, l.length ≠ m.length → sameL f l m = false
  | [], [], h => absurd rfl h
  | x :: l, y :: m, h => by simp [sameL, sameL_len (f := f) (l := l) (m := m) (by simpa using h)]
  | [], _ :: _, _ => rfl
  | _ :: _, [], _ => rfl

theorem sameL_self {α : Type} {f : α → α → Bool} (h : ∀ x, f x x = true) : ∀ l : List α, sameL f l l = true
  | [] => rfl
  | x :: l => by simp [sameL, h x, sameL_self h l]

theorem sameL_drop {α : Type} {f : α → α → Bool} {l m : List α} {i : Nat} {x y : α} (h1 : l[i]? = some x) (h2 : m[i]? = some y) : sameL f (l.drop i) (m.drop i) = (f x y && sameL f (l.drop (i + 1)) (m.drop (i + 1))) := by
  have e1 : l.drop i = x :: l.drop (i + 1) := by rw [List.drop_eq_getElem_cons (List.getElem?_eq_some_iff.1 h1).1, (List.getElem?_eq_some_iff.1 h1).2]
  have e2 : m.drop i = y :: m.drop (i + 1) := by rw [List.drop_eq_getElem_cons (List.getElem?_eq_some_iff.1 h2).1, (List.getElem?_eq_some_iff.1 h2).2]
  rw [e1, e2]
  rfl

def samePr (p q : Prd) : Bool := p.name.toList == q.name.toList && (p.test == q.test && (sameV p.v q.v && (sameV p.w q.w && sameL sameV p.set q.set)))

theorem samePr_self (p : Prd) : samePr p p = true := by simp [samePr, sameV_self, sameL_self sameV_self]

def sameSx (s t : Sx) : Bool := s.c == t.c && (s.b == t.b && (s.n == t.n && sameL samePr s.fl t.fl))

theorem sameSx_self (s : Sx) : sameSx s s = true := by simp [sameSx, sameL_self samePr_self]

theorem ref_SameV (hX : OnlyKnown X) {h : Heap} {c d : List AVal} {x y : Vl} (r : vlR.rep h c x) (s : vlR.rep h d y) (_ : True) (_ : True) : Tells (fun q => acallX Try.prog X q F_precentorref1_SameValue [.agg c, .agg d] h) fun r h' => r = .bool (sameV x y) ∧ Ext [] h h' := by
  rw [show c = vlC x from r, show d = vlC y from s]
  exact ref_SameValue hX x y h

theorem ref_sameValues (hX : OnlyKnown X) {h : Heap} {a b : AVal} {l m : List Vl} (o : Sl vlR h a l) (p : Sl vlR h b m) (hl : l.length ≤ 1000) (sz : ∀ x, x ∈ l → True) (sz2 : ∀ x, x ∈ m → True) :
    Tells (fun q => acallX Try.prog X q F_precentorref1_sameValues [a, b] h) fun r h' => r = .bool (sameL sameV l m) ∧ Ext [] h h' := by
  refine R_precentorref1_sameValues _ _ (hX _ _ rfl) ?_
  refine Tells.prot fun Q' hQ => ?_
  unfold S_precentorref1_sameValues
  by_cases hlm : l.length = m.length
  · simp [o.len, p.len, hlm, J_precentorref1_sameValues_0]
    refine Tells.bind (Tells.loop (fun k t g => ∃ i : Nat, t 0 = a ∧ t 1 = b ∧ t 5 = I i ∧ i + k = l.length ∧ sameL sameV l m = sameL sameV (l.drop i) (m.drop i) ∧ Ext [] h g)
      (Q := fun r g => ((r.1 = .exit 0 ∧ sameL sameV l m = true) ∨ (r.1 = .ret ∧ r.2 4 = .bool false ∧ sameL sameV l m = false)) ∧ Ext [] h g) ?_ l.length _ _ ⟨0, by simp, by simp, by simp, by omega, by simp, .refl⟩) ?_
    · rintro k t g ⟨i, t0, t1, ti, hi, hs, xg⟩
      refine Tells.prot fun Q2 hQ2 => ?_
      unfold L_precentorref1_sameValues_2
      have og := o.ext xg
      have pg := p.ext xg
      simp [t0, ti, og.len]
      refine Tells.cb (fun hc => ?_) (fun hc => ?_)
      · simp at hc
        have hc1 : i < l.length := by omega
        obtain ⟨x, hx⟩ : ∃ x, l[i]? = some x := ⟨_, List.getElem?_eq_getElem hc1⟩
        obtain ⟨y, hy⟩ : ∃ y, m[i]? = some y := ⟨_, List.getElem?_eq_getElem (by omega)⟩
        obtain ⟨b1, p1, B1, c1, q1, q2, q3⟩ := og.at (n := 5) rfl (i := (i : Int)) (by omega) (by simpa using hx)
        obtain ⟨b2, p2, B2, c2, r1, r2, r3⟩ := pg.at (n := 5) rfl (i := (i : Int)) (by omega) (by simpa using hy)
        have w : IntKind.i64.wrap ((i : Int) + 1) = i + 1 := wrap_id (by omega) (by omega)
        have q4 := q2.lda (n := 5) ((vlR).len q3)
        have r4 := r2.lda (n := 5) ((vlR).len r3)
        have e := sameL_drop (f := sameV) hx hy
        simp [J_precentorref1_sameValues_3, t0, t1, ti, q1, q4, r1, r4]
        refine Tells.cbE (ref_SameV hX q3 r3 (sz x (List.mem_of_getElem? hx)) (sz2 y (List.mem_of_getElem? hy))) ?_
        rintro _ g1 ⟨rfl, x1⟩
        cases hf : sameV x y with
        | false =>
          try simp
          exact Tells.ok (hQ2 _ _ (.inr ⟨by simp, .inr ⟨rfl, by simp, by rw [hs, e, hf]; rfl⟩, xg.trans x1⟩))
        | true =>
          simp [J_precentorref1_sameValues_4, ti, w]
          exact Tells.ok (hQ2 _ _ (.inl ⟨rfl, k - 1, by omega, i + 1, by simp [t0], by simp [t1], by simp, by omega, by rw [hs, e, hf]; rfl, xg.trans x1⟩))
      · simp at hc
        refine Tells.ok (hQ2 _ _ (.inr ⟨by simp, .inl ⟨rfl, ?_⟩, xg⟩))
        rw [hs, List.drop_eq_nil_of_le (by omega), List.drop_eq_nil_of_le (by omega)]
        rfl
    · rintro ⟨ex, t⟩ g ⟨⟨rfl, he⟩ | ⟨rfl, t4, he⟩, xg⟩
      · simp [J_precentorref1_sameValues_1]
        exact Tells.ok (hQ _ _ ⟨by rw [he], xg⟩)
      · have t4 : t 4 = .bool false := t4
        simp [t4]
        exact Tells.ok (hQ _ _ ⟨by rw [he], xg⟩)
  · have hn : ((l.length : Int) != (m.length : Int)) = true := by simp; omega
    simp [o.len, p.len, hn]
    exact Tells.ok (hQ _ _ ⟨by rw [sameL_len hlm], .refl⟩)

def SzP (p : Prd) : Prop := p.set.length ≤ 1000

def SzX (s : Sx) : Prop := s.fl.length ≤ 1000 ∧ ∀ p, p ∈ s.fl → SzP p

theorem ref_SamePred (hX : OnlyKnown X) {h : Heap} {c d : List AVal} {x y : Prd} (r : prR.rep h c x) (s : prR.rep h d y) (z1 : SzP x) (z2 : SzP y) : Tells (fun q => acallX Try.prog X q F_precentorref1_SamePred [.agg c, .agg d] h) fun r h' => r = .bool (samePr x y) ∧ Ext [] h h' := by
  obtain ⟨sv, rfl, os, _⟩ := r
  obtain ⟨sw, rfl, ow, _⟩ := s
  refine R_precentorref1_SamePred _ _ (hX _ _ rfl) ?_
  refine Tells.prot fun Q' hQ => ?_
  unfold S_precentorref1_SamePred
  simp [prC, vlC]
  refine Tells.box rfl rfl fun h1 ba o1 x1 l1 => ?_
  have o1 : Ob h1 ba (prC x sv) := o1
  try simp
  refine Tells.box rfl rfl fun h2 bb o2 x2 l2 => ?_
  have o2 : Ob h2 bb (prC y sw) := o2
  have o12 := o1.e x2
  have X2 := x1.trans x2
  cases e1 : (x.name.toList == y.name.toList) with
  | false =>
    simp [o12.1, o2.1, prC, vlC, e1]
    exact Tells.ok (hQ _ _ ⟨by simp [samePr, e1], X2⟩)
  | true =>
    cases e2 : (x.test == y.test) with
    | false =>
      simp [o12.1, o2.1, prC, vlC, e1, e2]
      exact Tells.ok (hQ _ _ ⟨by simp [samePr, e1, e2], X2⟩)
    | true =>
      simp [o12.1, o2.1, prC, vlC, e1, e2]
      refine Tells.bind (ref_SameValue hX x.v y.v h2) ?_
      rintro _ h3 ⟨rfl, x3⟩
      have o13 := o12.e x3
      have o23 := o2.e x3
      have X3 := X2.trans x3
      cases e3 : sameV x.v y.v with
      | false =>
        try simp
        exact Tells.ok (hQ _ _ ⟨by simp [samePr, e1, e2, e3], X3⟩)
      | true =>
        simp [o13.1, o23.1, prC, vlC]
        refine Tells.bind (ref_SameValue hX x.w y.w h3) ?_
        rintro _ h4 ⟨rfl, x4⟩
        have o14 := o13.e x4
        have o24 := o23.e x4
        have X4 := X3.trans x4
        cases e4 : sameV x.w y.w with
        | false =>
          try simp
          exact Tells.ok (hQ _ _ ⟨by simp [samePr, e1, e2, e3, e4], X4⟩)
        | true =>
          simp [o14.1, o24.1, prC, vlC]
          refine Tells.bind (ref_sameValues hX (os.ext X4) (ow.ext X4) z1 (fun _ _ => trivial) (fun _ _ => trivial)) ?_
          rintro _ h5 ⟨rfl, x5⟩
          try simp
          exact Tells.ok (hQ _ _ ⟨by simp [samePr, e1, e2, e3, e4], X4.trans x5⟩)

theorem ref_SameFilter (hX : OnlyKnown X) {h : Heap} {a b : AVal} {l m : List Prd} (o : Sl prR h a l) (p : Sl prR h b m) (hl : l.length ≤ 1000) (sz : ∀ x, x ∈ l → SzP x) (sz2 : ∀ x, x ∈ m → SzP x) :
    Tells (fun q => acallX Try.prog X q F_precentorref1_SameFilter [a, b] h) fun r h' => r = .bool (sameL samePr l m) ∧ Ext [] h h' := by
  refine R_precentorref1_SameFilter _ _ (hX _ _ rfl) ?_
  refine Tells.prot fun Q' hQ => ?_
  unfold S_precentorref1_SameFilter
  by_cases hlm : l.length = m.length
  · simp [o.len, p.len, hlm, J_precentorref1_SameFilter_0]
    refine Tells.bind (Tells.loop (fun k t g => ∃ i : Nat, t 0 = a ∧ t 1 = b ∧ t 5 = I i ∧ i + k = l.length ∧ sameL samePr l m = sameL samePr (l.drop i) (m.drop i) ∧ Ext [] h g)
      (Q := fun r g => ((r.1 = .exit 0 ∧ sameL samePr l m = true) ∨ (r.1 = .ret ∧ r.2 4 = .bool false ∧ sameL samePr l m = false)) ∧ Ext [] h g) ?_ l.length _ _ ⟨0, by simp, by simp, by simp, by omega, by simp, .refl⟩) ?_
    · rintro k t g ⟨i, t0, t1, ti, hi, hs, xg⟩
      refine Tells.prot fun Q2 hQ2 => ?_
      unfold L_precentorref1_SameFilter_2
      have og := o.ext xg
      have pg := p.ext xg
      simp [t0, ti, og.len]
      refine Tells.cb (fun hc => ?_) (fun hc => ?_)
      · simp at hc
        have hc1 : i < l.length := by omega
        obtain ⟨x, hx⟩ : ∃ x, l[i]? = some x := ⟨_, List.getElem?_eq_getElem hc1⟩
        obtain ⟨y, hy⟩ : ∃ y, m[i]? = some y := ⟨_, List.getElem?_eq_getElem (by omega)⟩
        obtain ⟨b1, p1, B1, c1, q1, q2, q3⟩ := og.at (n := 13) rfl (i := (i : Int)) (by omega) (by simpa using hx)
        obtain ⟨b2, p2, B2, c2, r1, r2, r3⟩ := pg.at (n := 13) rfl (i := (i : Int)) (by omega) (by simpa using hy)
        have w : IntKind.i64.wrap ((i : Int) + 1) = i + 1 := wrap_id (by omega) (by omega)
        have q4 := q2.lda (n := 13) ((prR).len q3)
        have r4 := r2.lda (n := 13) ((prR).len r3)
        have e := sameL_drop (f := samePr) hx hy
        simp [J_precentorref1_SameFilter_3, t0, t1, ti, q1, q4, r1, r4]
        refine Tells.cbE (ref_SamePred hX q3 r3 (sz x (List.mem_of_getElem? hx)) (sz2 y (List.mem_of_getElem? hy))) ?_
        rintro _ g1 ⟨rfl, x1⟩
        cases hf : samePr x y with
        | false =>
          try simp
          exact Tells.ok (hQ2 _ _ (.inr ⟨by simp, .inr ⟨rfl, by simp, by rw [hs, e, hf]; rfl⟩, xg.trans x1⟩))
        | true =>
          simp [J_precentorref1_SameFilter_4, ti, w]
          exact Tells.ok (hQ2 _ _ (.inl ⟨rfl, k - 1, by omega, i + 1, by simp [t0], by simp [t1], by simp, by omega, by rw [hs, e, hf]; rfl, xg.trans x1⟩))
      · simp at hc
        refine Tells.ok (hQ2 _ _ (.inr ⟨by simp, .inl ⟨rfl, ?_⟩, xg⟩))
        rw [hs, List.drop_eq_nil_of_le (by omega), List.drop_eq_nil_of_le (by omega)]
        rfl
    · rintro ⟨ex, t⟩ g ⟨⟨rfl, he⟩ | ⟨rfl, t4, he⟩, xg⟩
      · simp [J_precentorref1_SameFilter_1]
        exact Tells.ok (hQ _ _ ⟨by rw [he], xg⟩)
      · have t4 : t 4 = .bool false := t4
        simp [t4]
        exact Tells.ok (hQ _ _ ⟨by rw [he], xg⟩)
  · have hn : ((l.length : Int) != (m.length : Int)) = true := by simp; omega
    simp [o.len, p.len, hn]
    exact Tells.ok (hQ _ _ ⟨by rw [sameL_len hlm], .refl⟩)

end
end Go.Proofs.Ytbkfamdkdjajjaa

/-! precentorref1.Word (printed by mk14.py). -/
namespace Go.Proofs.Ytbkfamdkdjajjaa
open Go.Ab

section
variable {X : XTab}

def letterB (b : UInt8) : Bool := !(decide ((b.toNat : Int) < 97) || decide (122 < (b.toNat : Int)))

def wordB (s : ByteArray) : Bool := s.data.toList.all letterB && (decide (1 ≤ s.size) && decide (s.size ≤ 6))

theorem ref_Word (hX : OnlyKnown X) (s : ByteArray) (hs : s.size < 2 ^ 63) (h : Heap) : Tells (fun q => acallX Try.prog X q F_precentorref1_Word [.str s] h) fun r h' => r = .bool (wordB s) ∧ h' = h := by
  refine R_precentorref1_Word _ (hX _ _ rfl) ?_
  refine Tells.prot fun Q' hQ => ?_
  have hsz : s.data.toList.length = s.size := rfl
  unfold S_precentorref1_Word
  try simp
  refine Tells.bind (Tells.loop (fun n t g => ∃ i : Nat, t 0 = .str s ∧ t 3 = I i ∧ i + n = s.size ∧ g = h ∧ s.data.toList.all letterB = (s.data.toList.drop i).all letterB)
    (Q := fun p g => g = h ∧ ((p.1 = .exit 0 ∧ p.2 0 = .str s ∧ s.data.toList.all letterB = true) ∨ (p.1 = .ret ∧ p.2 2 = .bool false ∧ s.data.toList.all letterB = false))) ?_ s.size _ _ ?_) ?_
  · rintro n t g ⟨i, t0, t3, hi, rfl, ha⟩
    refine Tells.prot fun Q2 hQ2 => ?_
    unfold L_precentorref1_Word_1
    simp [t0, t3, lenS]
    refine Tells.cb (fun hc => ?_) (fun hc => ?_)
    · simp at hc
      have w : IntKind.i64.wrap ((i : Int) + 1) = i + 1 := wrap_id (by omega) (by omega)
      have hlt : i < s.data.toList.length := by omega
      obtain ⟨b, hb⟩ : ∃ b, s.data.toList[i]? = some b := ⟨_, List.getElem?_eq_getElem hlt⟩
      have hd : s.data.toList.drop i = b :: s.data.toList.drop (i + 1) := by rw [List.drop_eq_getElem_cons hlt, (List.getElem?_eq_some_iff.1 hb).2]
      have ix : ixtR (.str s) (I i) = some (.int .u8 b.toNat) := by
        simp only [ixtR]
        rw [if_pos (by omega)]
        simp only [Int.toNat_natCast, hb]
      rw [hd, List.all_cons] at ha
      by_cases c1 : (b.toNat : Int) < 97
      · simp [J_precentorref1_Word_2, t0, t3, ix, c1]
        exact Tells.ok (hQ2 _ _ (.inr ⟨by simp, rfl, .inr ⟨rfl, by simp, by rw [ha]; simp [letterB, c1]⟩⟩))
      · by_cases c2 : 122 < (b.toNat : Int)
        · simp [J_precentorref1_Word_2, t0, t3, ix, c1, c2]
          exact Tells.ok (hQ2 _ _ (.inr ⟨by simp, rfl, .inr ⟨rfl, by simp, by rw [ha]; simp [letterB, c1, c2]⟩⟩))
        · simp [J_precentorref1_Word_2, t0, t3, ix, c1, c2, J_precentorref1_Word_3, w]
          exact Tells.ok (hQ2 _ _ (.inl ⟨rfl, n - 1, by omega, i + 1, by simp [t0], by simp, by omega, rfl, by rw [ha]; simp [letterB, c1, c2]⟩))
    · simp at hc
      exact Tells.ok (hQ2 _ _ (.inr ⟨by simp, rfl, .inl ⟨rfl, by simp [t0], by rw [ha, List.drop_eq_nil_of_le (by omega)]; rfl⟩⟩))
  · exact ⟨0, by simp, by simp, by omega, rfl, rfl⟩
  · rintro ⟨ex, t⟩ g ⟨rfl, ⟨rfl, t0, ha⟩ | ⟨rfl, t2, ha⟩⟩
    · simp only at t0
      by_cases c1 : 1 ≤ (s.size : Int)
      · simp [J_precentorref1_Word_0, t0, lenS, c1]
        exact Tells.ok (hQ _ _ ⟨by rw [wordB, ha]; simp [show 1 ≤ s.size by omega]; omega, rfl⟩)
      · have : s.size = 0 := by omega
        simp [J_precentorref1_Word_0, t0, lenS, this]
        exact Tells.ok (hQ _ _ ⟨by rw [wordB, ha]; simp [this], rfl⟩)
    · simp only at t2
      simp [t2]
      exact Tells.ok (hQ _ _ ⟨by rw [wordB, ha]; rfl, rfl⟩)

end
end Go.Proofs.Ytbkfamdkdjajjaa

/-! precentorref1's right tests and filters (printed by mk14.py). -/
namespace Go.Proofs.Ytbkfamdkdjajjaa
open Go.Ab

section
variable {X : XTab}

def zeroB (v : Vl) : Bool := sameV v vl0

def rightP (p : Prd) : Bool := wordB p.name && (if p.test = 1 then zeroB p.v && (zeroB p.w && decide (p.set.length = 0)) else if 2 ≤ p.test ∧ p.test ≤ 7 then rightV p.v && (zeroB p.w && decide (p.set.length = 0))
  else if p.test = 8 then rightV p.v && (rightV p.w && decide (p.set.length = 0)) else if p.test = 9 then rightV p.v && (p.v.k == 3 && (zeroB p.w && decide (p.set.length = 0)))
  else if p.test = 10 then zeroB p.v && (zeroB p.w && (decide (1 ≤ p.set.length) && (decide (p.set.length ≤ 4) && p.set.all rightV))) else false)

def rightFs : Option ByteArray → List Prd → Bool
  | _, [] => true
  | q, p :: r => (rightP p && (match q with | some n => (Op.bytesLess n.toList p.name.toList || n.toList == p.name.toList) | none => true)) && rightFs (some p.name) r

def rightFl (fl : List Prd) : Bool := decide (fl.length ≤ 3) && rightFs none fl

def prevP (l : List Prd) (i : Nat) : Option ByteArray := if i = 0 then none else (l[i - 1]?).map (·.name)

theorem prevP_succ {l : List Prd} {i : Nat} {p : Prd} (h : l[i]? = some p) : prevP l (i + 1) = some p.name := by simp [prevP, h]

theorem rightFs_drop {l : List Prd} {i : Nat} {p : Prd} (h : l[i]? = some p) : rightFs (prevP l i) (l.drop i) = ((rightP p && (match prevP l i with | some n => (Op.bytesLess n.toList p.name.toList || n.toList == p.name.toList) | none => true)) && rightFs (prevP l (i + 1)) (l.drop (i + 1))) := by
  rw [prevP_succ h, List.drop_eq_getElem_cons (List.getElem?_eq_some_iff.1 h).1, (List.getElem?_eq_some_iff.1 h).2]
  rfl

def SzN (p : Prd) : Prop := p.set.length ≤ 1000 ∧ p.name.size < 2 ^ 63

theorem ref_zero (hX : OnlyKnown X) (v : Vl) (h : Heap) : Tells (fun q => acallX Try.prog X q F_precentorref1_zero [.agg (vlC v)] h) fun r h' => r = .bool (zeroB v) ∧ Ext [] h h' := by
  refine R_precentorref1_zero _ (hX _ _ rfl) ?_
  refine Tells.prot fun Q' hQ => ?_
  unfold S_precentorref1_zero
  simp [vlC]
  refine Tells.box rfl rfl fun h1 b o1 x1 l1 => ?_
  have o1 : Ob h1 b (vlC v) := o1
  simp [o1.1, vlC, bldR, fillR, splice]
  refine Tells.bind (ref_SameValue hX v vl0 h1) ?_
  rintro _ h2 ⟨rfl, x2⟩
  try simp
  exact Tells.ok (hQ _ _ ⟨rfl, x1.trans x2⟩)

theorem ref_RightPred (hX : OnlyKnown X) {h : Heap} {c : List AVal} {x : Prd} (r : prR.rep h c x) (z1 : SzN x) : Tells (fun q => acallX Try.prog X q F_precentorref1_RightPred [.agg c] h) fun r h' => r = .bool (rightP x) ∧ Ext [] h h' := by
  obtain ⟨sv, rfl, os, _⟩ := r
  refine R_precentorref1_RightPred _ (hX _ _ rfl) ?_
  refine Tells.prot fun Q' hQ => ?_
  unfold S_precentorref1_RightPred
  simp [prC, vlC]
  refine Tells.box rfl rfl fun h1 bp o1 x1 l1 => ?_
  have o1 : Ob h1 bp (prC x sv) := o1
  have os1 := os.ext x1
  simp [o1.1, prC, vlC]
  refine Tells.bind (ref_Word hX x.name z1.2 h1) ?_
  rintro _ h2 ⟨rfl, rfl⟩
  cases ew : wordB x.name with
  | false =>
    try simp
    exact Tells.ok (hQ _ _ ⟨by simp [rightP, ew], x1⟩)
  | true =>
    -- two values, and no set
    have l0 : ((x.set.length : Int) == 0) = decide (x.set.length = 0) := by
      by_cases q : x.set.length = 0
      · rw [q]; rfl
      · rw [beq_eq_false_iff_ne.2 (by omega)]; simp [q]
    have tail : ∀ (t : T), t 1 = .ptr bp 0 → t 9 = I x.test → t 26 = .bool (decide (2 ≤ x.test ∧ x.test ≤ 7)) → x.test ≠ 1 →
        Tells (fun m => J_precentorref1_RightPred_2 Try.prog (acallX Try.prog X m) m (blkK 0 (sqK (J_precentorref1_RightPred_1 Try.prog (acallX Try.prog X m) m (retK Try.prog [.tmp 2])) (retK Try.prog [.tmp 2]))) t h2) Q' := by
      intro t t1 tk tf n1
      by_cases c1 : 2 ≤ x.test ∧ x.test ≤ 7
      · have eP : rightP x = (rightV x.v && (zeroB x.w && decide (x.set.length = 0))) := by simp [rightP, ew, n1, c1]
        simp [J_precentorref1_RightPred_2, tf, c1, t1, o1.1, prC, vlC]
        refine Tells.bind (ref_RightValue hX x.v h2) ?_
        rintro _ h3 ⟨rfl, x3⟩
        have o3 := o1.e x3
        cases e1 : rightV x.v with
        | false =>
          try simp
          exact Tells.ok (hQ _ _ ⟨by simp [eP, e1], x1.trans x3⟩)
        | true =>
          simp [t1, o3.1, prC, vlC]
          refine Tells.bind (ref_zero hX x.w h3) ?_
          rintro _ h4 ⟨rfl, x4⟩
          have o4 := o3.e x4
          cases e2 : zeroB x.w with
          | false =>
            try simp
            exact Tells.ok (hQ _ _ ⟨by simp [eP, e1, e2], (x1.trans x3).trans x4⟩)
          | true =>
            simp [t1, o4.1, prC, vlC, ((os1.ext x3).ext x4).len, l0]
            exact Tells.ok (hQ _ _ ⟨by simp [eP, e1, e2], (x1.trans x3).trans x4⟩)
      · by_cases c2 : x.test = 8
        · have eP : rightP x = (rightV x.v && (rightV x.w && decide (x.set.length = 0))) := by simp [rightP, ew, c2]
          simp [J_precentorref1_RightPred_2, tf, tk, c1, c2, t1, o1.1, prC, vlC]
          refine Tells.bind (ref_RightValue hX x.v h2) ?_
          rintro _ h3 ⟨rfl, x3⟩
          have o3 := o1.e x3
          cases e1 : rightV x.v with
          | false =>
            try simp
            exact Tells.ok (hQ _ _ ⟨by simp [eP, e1], x1.trans x3⟩)
          | true =>
            simp [t1, o3.1, prC, vlC]
            refine Tells.bind (ref_RightValue hX x.w h3) ?_
            rintro _ h4 ⟨rfl, x4⟩
            have o4 := o3.e x4
            cases e2 : rightV x.w with
            | false =>
              try simp
              exact Tells.ok (hQ _ _ ⟨by simp [eP, e1, e2], (x1.trans x3).trans x4⟩)
            | true =>
              simp [t1, o4.1, prC, vlC, ((os1.ext x3).ext x4).len, l0]
              exact Tells.ok (hQ _ _ ⟨by simp [eP, e1, e2], (x1.trans x3).trans x4⟩)
        · have b2 : (x.test == 8) = false := beq_eq_false_iff_ne.2 c2
          by_cases c3 : x.test = 9
          · have eP : rightP x = (rightV x.v && (x.v.k == 3 && (zeroB x.w && decide (x.set.length = 0)))) := by simp [rightP, ew, c3]
            simp [J_precentorref1_RightPred_2, tf, tk, c1, c3, t1, o1.1, prC, vlC]
            refine Tells.bind (ref_RightValue hX x.v h2) ?_
            rintro _ h3 ⟨rfl, x3⟩
            have o3 := o1.e x3
            cases e1 : rightV x.v with
            | false =>
              try simp
              exact Tells.ok (hQ _ _ ⟨by simp [eP, e1], x1.trans x3⟩)
            | true =>
              cases e3 : (x.v.k == 3) with
              | false =>
                simp [t1, o3.1, prC, vlC, e3]
                exact Tells.ok (hQ _ _ ⟨by simp [eP, e1, e3], x1.trans x3⟩)
              | true =>
                simp [t1, o3.1, prC, vlC, e3]
                refine Tells.bind (ref_zero hX x.w h3) ?_
                rintro _ h4 ⟨rfl, x4⟩
                have o4 := o3.e x4
                cases e2 : zeroB x.w with
                | false =>
                  try simp
                  exact Tells.ok (hQ _ _ ⟨by simp [eP, e1, e2, e3], (x1.trans x3).trans x4⟩)
                | true =>
                  simp [t1, o4.1, prC, vlC, ((os1.ext x3).ext x4).len, l0]
                  exact Tells.ok (hQ _ _ ⟨by simp [eP, e1, e2, e3], (x1.trans x3).trans x4⟩)
          · have b3 : (x.test == 9) = false := beq_eq_false_iff_ne.2 c3
            by_cases c4 : x.test = 10
            · have eP : rightP x = (zeroB x.v && (zeroB x.w && (decide (1 ≤ x.set.length) && (decide (x.set.length ≤ 4) && x.set.all rightV)))) := by simp [rightP, ew, c4]
              have zz : x.set.length ≤ 1000 := z1.1
              simp [J_precentorref1_RightPred_2, tf, tk, c1, c4, t1]
              refine Tells.bind (Tells.loop (fun k t g => ∃ i : Nat, t 1 = .ptr bp 0 ∧ t 3 = I i ∧ i + k = x.set.length ∧ x.set.all rightV = (x.set.drop i).all rightV ∧ Ext [] h2 g)
                (Q := fun r g => ((r.1 = .exit 1 ∧ r.2 1 = .ptr bp 0 ∧ x.set.all rightV = true) ∨ (r.1 = .ret ∧ r.2 2 = .bool false ∧ x.set.all rightV = false)) ∧ Ext [] h2 g) ?_ x.set.length _ _ ⟨0, by simp [t1], by simp, by omega, by simp, .refl⟩) ?_
              · rintro k t g ⟨i, t1, t3, hi, hs, xg⟩
                refine Tells.prot fun Q2 hQ2 => ?_
                unfold L_precentorref1_RightPred_4
                have og := os1.ext xg
                have oo := o1.e xg
                simp [t1, t3, oo.1, prC, vlC, og.len]
                refine Tells.cb (fun hc => ?_) (fun hc => ?_)
                · simp at hc
                  obtain ⟨y, hy⟩ : ∃ y, x.set[i]? = some y := ⟨_, List.getElem?_eq_getElem hc⟩
                  obtain ⟨b1, p1, B1, c1, q1, q2, q3⟩ := og.at (n := 5) rfl (i := (i : Int)) (by omega) (by simpa using hy)
                  have q3 : c1 = vlC y := q3
                  subst q3
                  have w : IntKind.i64.wrap ((i : Int) + 1) = i + 1 := wrap_id (by omega) (by omega)
                  have q4 := q2.lda (n := 5) rfl
                  have e : (x.set.drop i).all rightV = (rightV y && (x.set.drop (i + 1)).all rightV) := by rw [List.drop_eq_getElem_cons hc, (List.getElem?_eq_some_iff.1 hy).2, List.all_cons]
                  simp [J_precentorref1_RightPred_5, t1, t3, oo.1, prC, vlC, q1]
                  simp [vlC] at q4
                  try simp [q4]
                  refine Tells.bind (ref_RightValue hX y g) ?_
                  rintro _ g2 ⟨rfl, x2⟩
                  cases hf : rightV y with
                  | false =>
                    try simp
                    exact Tells.ok (hQ2 _ _ (.inr ⟨by simp, .inr ⟨rfl, by simp, by rw [hs, e, hf]; rfl⟩, xg.trans x2⟩))
                  | true =>
                    simp [J_precentorref1_RightPred_6, t3, w]
                    exact Tells.ok (hQ2 _ _ (.inl ⟨rfl, k - 1, by omega, i + 1, by simp [t1], by simp, by omega, by rw [hs, e, hf]; rfl, xg.trans x2⟩))
                · simp at hc
                  refine Tells.ok (hQ2 _ _ (.inr ⟨by simp, .inl ⟨rfl, by simp [t1], ?_⟩, xg⟩))
                  rw [hs, List.drop_eq_nil_of_le (by omega)]
                  rfl
              · rintro ⟨ex, t⟩ g ⟨⟨rfl, t1, he⟩ | ⟨rfl, t2, he⟩, xg⟩
                · have t1 : t 1 = .ptr bp 0 := t1
                  have og := o1.e xg
                  have X2 := x1.trans xg
                  have osg := os1.ext xg
                  simp [J_precentorref1_RightPred_3, t1, og.1, prC, vlC]
                  refine Tells.bind (ref_zero hX x.v g) ?_
                  rintro _ h3 ⟨rfl, x3⟩
                  have o3 := og.e x3
                  cases e1 : zeroB x.v with
                  | false =>
                    try simp
                    exact Tells.ok (hQ _ _ ⟨by simp [eP, e1], X2.trans x3⟩)
                  | true =>
                    simp [t1, o3.1, prC, vlC]
                    refine Tells.bind (ref_zero hX x.w h3) ?_
                    rintro _ h4 ⟨rfl, x4⟩
                    have o4 := o3.e x4
                    have os4 := (osg.ext x3).ext x4
                    have X4 := (X2.trans x3).trans x4
                    cases e2 : zeroB x.w with
                    | false =>
                      try simp
                      exact Tells.ok (hQ _ _ ⟨by simp [eP, e1, e2], X4⟩)
                    | true =>
                      by_cases s1 : 1 ≤ x.set.length
                      · have s1' : (1 : Int) ≤ x.set.length := by omega
                        by_cases s2 : x.set.length ≤ 4
                        · have s2' : (x.set.length : Int) ≤ 4 := by omega
                          simp [t1, o4.1, prC, vlC, os4.len, s1, s1', s2, s2']
                          exact Tells.ok (hQ _ _ ⟨by simp [eP, e1, e2, s1, s2, he], X4⟩)
                        · have s2' : ¬ (x.set.length : Int) ≤ 4 := by omega
                          simp [t1, o4.1, prC, vlC, os4.len, s1, s1', s2, s2']
                          exact Tells.ok (hQ _ _ ⟨by simp [eP, e1, e2, s1, s2], X4⟩)
                      · have s1' : ¬ (1 : Int) ≤ x.set.length := by omega
                        simp [t1, o4.1, prC, vlC, os4.len, s1, s1']
                        exact Tells.ok (hQ _ _ ⟨by simp [eP, e1, e2, s1], X4⟩)
                · have t2 : t 2 = .bool false := t2
                  simp [t2]
                  exact Tells.ok (hQ _ _ ⟨by simp [eP, he], x1.trans xg⟩)
            · have b4 : (x.test == 10) = false := beq_eq_false_iff_ne.2 c4
              have eP : rightP x = false := by simp [rightP, ew, n1, c1, c2, c3, c4]
              simp [J_precentorref1_RightPred_2, tf, tk, c1, b2, b3, b4, J_precentorref1_RightPred_1]
              exact Tells.ok (hQ _ _ ⟨by simp [eP], x1⟩)
    by_cases c1 : x.test = 1
    · have eP : rightP x = (zeroB x.v && (zeroB x.w && decide (x.set.length = 0))) := by simp [rightP, ew, c1]
      simp [J_precentorref1_RightPred_0, o1.1, prC, vlC, c1]
      refine Tells.bind (ref_zero hX x.v h2) ?_
      rintro _ h3 ⟨rfl, x3⟩
      have o3 := o1.e x3
      cases e1 : zeroB x.v with
      | false =>
        try simp
        exact Tells.ok (hQ _ _ ⟨by simp [eP, e1], x1.trans x3⟩)
      | true =>
        simp [o3.1, prC, vlC]
        refine Tells.bind (ref_zero hX x.w h3) ?_
        rintro _ h4 ⟨rfl, x4⟩
        have o4 := o3.e x4
        cases e2 : zeroB x.w with
        | false =>
          try simp
          exact Tells.ok (hQ _ _ ⟨by simp [eP, e1, e2], (x1.trans x3).trans x4⟩)
        | true =>
          simp [o4.1, prC, vlC, ((os1.ext x3).ext x4).len, l0]
          exact Tells.ok (hQ _ _ ⟨by simp [eP, e1, e2], (x1.trans x3).trans x4⟩)
    · have b1 : (x.test == 1) = false := beq_eq_false_iff_ne.2 c1
      simp [J_precentorref1_RightPred_0, o1.1, prC, vlC, b1]
      by_cases d2 : x.test = 2
      · simp [d2]
        exact tail _ (by simp) (by simp [d2]) (by simp [d2]) c1
      · have k2 : (x.test == 2) = false := beq_eq_false_iff_ne.2 d2
        by_cases d3 : x.test = 3
        · simp [k2, d3]
          exact tail _ (by simp) (by simp [d3]) (by simp [d3]) c1
        · have k3 : (x.test == 3) = false := beq_eq_false_iff_ne.2 d3
          by_cases d4 : x.test = 4
          · simp [k2, k3, d4]
            exact tail _ (by simp) (by simp [d4]) (by simp [d4]) c1
          · have k4 : (x.test == 4) = false := beq_eq_false_iff_ne.2 d4
            by_cases d5 : x.test = 5
            · simp [k2, k3, k4, d5]
              exact tail _ (by simp) (by simp [d5]) (by simp [d5]) c1
            · have k5 : (x.test == 5) = false := beq_eq_false_iff_ne.2 d5
              by_cases d6 : x.test = 6
              · simp [k2, k3, k4, k5, d6]
                exact tail _ (by simp) (by simp [d6]) (by simp [d6]) c1
              · have k6 : (x.test == 6) = false := beq_eq_false_iff_ne.2 d6
                have k7 : (x.test == 7) = decide (2 ≤ x.test ∧ x.test ≤ 7) := by
                  by_cases q : x.test = 7
                  · rw [q]; decide
                  · rw [beq_eq_false_iff_ne.2 q]
                    have : ¬ (2 ≤ x.test ∧ x.test ≤ 7) := by omega
                    simp [this]
                simp [k2, k3, k4, k5, k6]
                exact tail _ (by simp) (by simp) (by simp [k7]) c1

def mayB (s : Sx) : Bool := decide (1 ≤ s.c) && (decide (s.c ≤ 6) && (decide (0 ≤ s.b) && (decide (s.b ≤ 7) && (decide (1 ≤ s.n) && (decide (s.n ≤ 4611686018427387904) && rightFl s.fl)))))

def SzR (s : Sx) : Prop := s.fl.length ≤ 1000 ∧ ∀ p, p ∈ s.fl → SzN p

theorem ref_RightFilter (hX : OnlyKnown X) {h : Heap} {v : AVal} {l : List Prd} (o : Sl prR h v l) (hl : l.length ≤ 1000) (sz : ∀ p, p ∈ l → SzN p) : Tells (fun q => acallX Try.prog X q F_precentorref1_RightFilter [v] h) fun r h' => r = .bool (rightFl l) ∧ Ext [] h h' := by
  refine R_precentorref1_RightFilter _ (hX _ _ rfl) ?_
  refine Tells.prot fun Q' hQ => ?_
  unfold S_precentorref1_RightFilter
  try simp
  refine Tells.bind (Tells.loop (fun k t g => ∃ i : Nat, t 0 = v ∧ t 3 = I i ∧ i + k = l.length ∧ rightFs none l = rightFs (prevP l i) (l.drop i) ∧ Ext [] h g)
    (Q := fun r g => ((r.1 = .exit 0 ∧ r.2 0 = v ∧ rightFs none l = true) ∨ (r.1 = .ret ∧ r.2 2 = .bool false ∧ rightFs none l = false)) ∧ Ext [] h g) ?_ l.length _ _ ⟨0, by simp, by simp, by omega, by simp [prevP], .refl⟩) ?_
  · rintro k t g ⟨i, t0, t3, hi, hs, xg⟩
    refine Tells.prot fun Q2 hQ2 => ?_
    unfold L_precentorref1_RightFilter_1
    have og := o.ext xg
    simp [t3, t0, og.len]
    refine Tells.cb (fun hc => ?_) (fun hc => ?_)
    · simp at hc
      obtain ⟨x, hx⟩ : ∃ x, l[i]? = some x := ⟨_, List.getElem?_eq_getElem hc⟩
      obtain ⟨b1, p1, B1, c1, q1, q2, sv, rfl, os, _⟩ := og.at (n := 13) rfl (i := (i : Int)) (by omega) (by simpa using hx)
      have w : IntKind.i64.wrap ((i : Int) + 1) = i + 1 := wrap_id (by omega) (by omega)
      have q4 := q2.lda (n := 13) rfl
      have e := rightFs_drop hx
      have rep1 : prR.rep g (prC x sv) x := ⟨sv, rfl, os, fun _ _ => trivial⟩
      simp [J_precentorref1_RightFilter_2, t0, t3, q1, q4]
      refine Tells.cbE (ref_RightPred hX rep1 (sz x (List.mem_of_getElem? hx))) ?_
      rintro _ g2 ⟨rfl, x2⟩
      have X2 := xg.trans x2
      cases e1 : rightP x with
      | false =>
        try simp
        exact Tells.ok (hQ2 _ _ (.inr ⟨by simp, .inr ⟨rfl, by simp, by rw [hs, e, e1]; rfl⟩, X2⟩))
      | true =>
        by_cases h0 : i = 0
        · subst h0
          simp [t3, J_precentorref1_RightFilter_3]
          exact Tells.ok (hQ2 _ _ (.inl ⟨rfl, k - 1, by omega, 1, by simp [t0], by simp; rfl, by omega, by rw [hs, e, e1]; simp [prevP], X2⟩))
        · obtain ⟨y, hy⟩ : ∃ y, l[i - 1]? = some y := ⟨_, List.getElem?_eq_getElem (by omega)⟩
          have h0' : (0 : Int) < i := by omega
          have h0'' : 0 < i := by omega
          have w1 : IntKind.i64.wrap ((i : Int) - 1) = ((i - 1 : Nat) : Int) := by rw [wrap_id (by omega) (by omega)]; omega
          obtain ⟨b2, p2, B2, c2, r1, r2, sw, rfl, ow, _⟩ := (og.ext x2).at (n := 13) rfl (i := ((i - 1 : Nat) : Int)) (by omega) (by simpa using hy)
          obtain ⟨b3, p3, B3, c3, s1, s2, sw', rfl, ow', _⟩ := (og.ext x2).at (n := 13) rfl (i := (i : Int)) (by omega) (by simpa using hx)
          cases q1.symm.trans s1
          have r4 := r2.cell0 (by simp [prC])
          have s4 := s2.cell0 (by simp [prC])
          simp [prC] at r4 s4
          have ep : prevP l i = some y.name := by simp [prevP, h0, hy]
          rw [ep] at e
          simp only at e
          cases e2 : (Op.bytesLess y.name.toList x.name.toList || y.name.toList == x.name.toList) with
          | true =>
            have fin : ∀ t2 : T, t2 0 = v → t2 3 = I ((i : Int) + 1) → Q2 (.normal, t2) g2 := fun t2 a0 a10 => hQ2 _ _ (.inl ⟨rfl, k - 1, by omega, i + 1, a0, a10, by omega, by rw [hs, ep, e, e1, e2]; rfl, X2⟩)
            rcases Bool.or_eq_true _ _ ▸ e2 with q | q
            · simp [t3, t0, h0', h0'', w1, r1, r2.get, r4, q1, s2.get, s4, q, J_precentorref1_RightFilter_3, w]
              exact Tells.ok (fin _ (by simp [t0]) (by simp))
            · simp [t3, t0, h0', h0'', w1, r1, r2.get, r4, q1, s2.get, s4, q, J_precentorref1_RightFilter_3, w]
              exact Tells.ok (fin _ (by simp [t0]) (by simp))
          | false =>
            have e3 := e2
            simp only [Bool.or_eq_false_iff] at e3
            simp [t3, t0, h0', h0'', w1, r1, r2.get, r4, q1, s2.get, s4, e3.1, e3.2]
            exact Tells.ok (hQ2 _ _ (.inr ⟨by simp, .inr ⟨rfl, by simp, by rw [hs, ep, e, e1, e2]; rfl⟩, X2⟩))
    · simp at hc
      refine Tells.ok (hQ2 _ _ (.inr ⟨by simp, .inl ⟨rfl, by simp [t0], ?_⟩, xg⟩))
      rw [hs, List.drop_eq_nil_of_le (by omega)]
      rfl
  · rintro ⟨ex, t⟩ g ⟨⟨rfl, t0, he⟩ | ⟨rfl, t2, he⟩, xg⟩
    · have t0 : t 0 = v := t0
      have l3 : decide ((l.length : Int) ≤ 3) = decide (l.length ≤ 3) := by
        by_cases q : l.length ≤ 3
        · have : (l.length : Int) ≤ 3 := by omega
          simp [q, this]
        · have : ¬ (l.length : Int) ≤ 3 := by omega
          simp [q, this]
      simp [J_precentorref1_RightFilter_0, t0, (o.ext xg).len]
      exact Tells.ok (hQ _ _ ⟨by rw [rightFl, he, Bool.and_true]; first | rw [l3] | (congr 1; exact l3) | simpa using l3, xg⟩)
    · have t2 : t 2 = .bool false := t2
      simp [t2]
      exact Tells.ok (hQ _ _ ⟨by simp [rightFl, he], xg⟩)

end
end Go.Proofs.Ytbkfamdkdjajjaa

/-! What precentorhand's Name, Pred, Filter tell. -/
namespace Go.Proofs.Ytbkfamdkdjajjaa
open Go.Ab

section
variable {X : XTab}

def names4 : List ByteArray := [bs [97], bs [98], bs [99], bs [108, 111, 110, 103]]
def texts4 : List ByteArray := [bs [], bs [97], bs [98], bs [97, 98]]

theorem NameH (hX : OnlyKnown X) {h : Heap} {bf k : Nat} (f : Feed h bf k) (hk : k < 2 ^ 61) :
    Tells (fun q => acallX Try.prog X q F_precentorhand_Feed_Name [.ptr bf 0] h) fun r h' => ∃ nm, r = .str nm ∧ nm ∈ names4 ∧ Ext [bf] h h' ∧ Feed h' bf (k + 1) := by
  refine R_precentorhand_Feed_Name _ (hX _ _ rfl) ?_
  refine Tells.prot fun Q' hQ => ?_
  unfold S_precentorhand_Feed_Name
  simp [bldR, fillR, splice]
  refine Tells.bind (Next hX 12 ⟨by decide, by decide⟩ f (by omega)) ?_
  rintro _ h1 ⟨r, rfl, r0, r1, _, x1, f1⟩
  have r1 := r1 (by decide)
  have : r = 0 ∨ r = 1 ∨ r = 2 ∨ r = 3 ∨ r = 4 ∨ r = 5 ∨ r = 6 ∨ r = 7 ∨ r = 8 ∨ r = 9 ∨ r = 10 ∨ r = 11 := by omega
  rcases this with rfl | rfl | rfl | rfl | rfl | rfl | rfl | rfl | rfl | rfl | rfl | rfl
  all_goals
    refine Tells.ok (hQ _ _ ⟨_, rfl, ?_, x1, f1⟩)
    simp [names4]

/-- The zero value. -/
def vlZ : Vl := ⟨0, 0, 0, bs [], false⟩
/-- A test that the feed tells. -/
def FedP (p : Prd) : Prop := p.name ∈ names4 ∧ ((p.test = 1 ∧ p.v = vlZ ∧ p.w = vlZ ∧ p.set = []) ∨ (p.test = 9 ∧ (∃ s, s ∈ texts4 ∧ p.v = ⟨3, 0, 0, s, false⟩) ∧ p.w = vlZ ∧ p.set = []) ∨
  (p.test = 10 ∧ p.v = vlZ ∧ p.w = vlZ ∧ 1 ≤ p.set.length ∧ p.set.length ≤ 4 ∧ ∀ x, x ∈ p.set → FedV x) ∨ (p.test = 8 ∧ FedV p.v ∧ FedV p.w ∧ p.set = []) ∨
  (2 ≤ p.test ∧ p.test ≤ 7 ∧ FedV p.v ∧ p.w = vlZ ∧ p.set = []))

theorem PredH (hX : OnlyKnown X) {h : Heap} {bf k : Nat} (f : Feed h bf k) (hk : k < 2 ^ 60) {nm : ByteArray} (hn : nm ∈ names4) :
    Tells (fun q => acallX Try.prog X q F_precentorhand_Feed_Pred [.ptr bf 0, .str nm] h) fun r h' => ∃ p sv, r = .agg (prC p sv) ∧ p.name = nm ∧ FedP p ∧ Sl vlR h' sv p.set ∧ Wr h h' sv ∧ Ext [bf] h h' ∧ Feed h' bf (k + 12) := by
  refine R_precentorhand_Feed_Pred _ _ (hX _ _ rfl) ?_
  refine Tells.prot fun Q' hQ => ?_
  unfold S_precentorhand_Feed_Pred
  try simp
  refine Tells.new fun h1 br or x1 l1 => ?_
  have hne1 : bf ≠ br := by have := f.lt; omega
  try simp
  refine Tells.bind (Next hX 10 ⟨by decide, by decide⟩ (f.e x1) (by omega)) ?_
  rintro _ h2 ⟨r, rfl, r0, r1, _, x2, f2⟩
  have r1 := r1 (by decide)
  have or2 := or.ext x2 (by simpa using hne1.symm)
  have w : IntKind.i64.wrap (1 + r) = 1 + r := wrap_id (by omega) (by omega)
  simp [bldR, fillR, splice, w]
  refine Tells.newSt (ds := prC ⟨nm, 1 + r, vlZ, vlZ, []⟩ .nils) (by rfl) (by rfl) (by rfl) (by rfl) fun h3 bp op x3 l3 => ?_
  have f3 := f2.e x3
  have or3 := or2.e x3
  have hne2 : bf ≠ bp := by have := f2.lt; omega
  have hne3 : br ≠ bp := by have := or2.lt; omega
  have ll : h.next ≤ br := l1
  have lp : h.next ≤ bp := by have := x1.next; have := x2.next; omega
  have x03 : Ext [bf] h h3 := (x1.of.trans x2).quiet x3
  -- how each way ends
  have fin : ∀ (g : Heap) (p : Prd) (sv : AVal) (K : Nat), K ≤ k + 12 → FedP p → p.name = nm → Ob g bp (prC p sv) → Ob g br [.str (bs []), I 0, I 0, I 0, .flt .f64 0, .str (bs []), .bool false, I 0, I 0, .flt .f64 0, .str (bs []), .bool false, .nils] → Sl vlR g sv p.set → Wr h g sv → Ext [bf] h g → Feed g bf K →
      ∀ (t : T), t 4 = .ptr br 0 → t 5 = .ptr bp 0 → ∀ ty, (∀ h a, aLoad Try.prog h ty a = ldn 13 h a) →
      (Tells (fun m => J_precentorhand_Feed_Pred_1 Try.prog (acallX Try.prog X m) m (retK Try.prog [.cell 4 ty]) t g) Q' ∧
       Tells (fun m => J_precentorhand_Feed_Pred_2 Try.prog (acallX Try.prog X m) m (blkK 0 (sqK (J_precentorhand_Feed_Pred_0 Try.prog (acallX Try.prog X m) m (retK Try.prog [.cell 4 ty])) (retK Try.prog [.cell 4 ty]))) t g) Q') := by
    intro g p sv K hK hp hpn o o' os ws x f t t4 t5 ty hty
    have main : ∀ (h' : Heap), Ob h' br (prC p sv) → Ext [br] g h' → Q' (.agg (prC p sv)) h' := fun h' o2 x2 => hQ _ _ ⟨p, sv, rfl, hpn, hp, os.ext x2, ws.ext x2, x.then x2 fun z hz => .inr (by simp at hz; omega), (f.ext x2 (by simpa using hne1)).mono hK⟩
    constructor
    · simp [J_precentorhand_Feed_Pred_1, t5, t4, o.1]
      refine Tells.stN o' (ds := prC p sv) (by rfl) (by rfl) (by simp [prC, vlC, os.one]) (by rfl) fun h' o2 x2 => ?_
      simp [t4, hty, o2.1, prC, vlC]
      exact Tells.ok (main h' o2 x2)
    · simp [J_precentorhand_Feed_Pred_2, t5, t4, o.1]
      refine Tells.stN o' (ds := prC p sv) (by rfl) (by rfl) (by simp [prC, vlC, os.one]) (by rfl) fun h' o2 x2 => ?_
      simp [t4, hty, o2.1, prC, vlC]
      exact Tells.ok (main h' o2 x2)
  have outS : ∀ (g : Heap) (p : Prd) (K : Nat), K ≤ k + 12 → FedP p → p.name = nm → p.set = [] → Ext [bf] h g → Feed g bf K → ∀ (h' : Heap), Ob h' br (prC p .nils) → Ext [br] g h' → Q' (.agg (prC p .nils)) h' := fun g p K hK hp hpn hs x f h' o2 x2 => hQ _ _ ⟨p, .nils, rfl, hpn, hp, by rw [hs]; exact Sl.nil, fun b hb => by simp [AVal.blks] at hb, x.then x2 fun z hz => .inr (by simp at hz; omega), (f.ext x2 (by simpa using hne1)).mono hK⟩
  by_cases c1 : r = 0
  · subst c1
    simp [prC, vlC, vlZ, op.1]
    refine Tells.stN or3 (ds := prC ⟨nm, 1, vlZ, vlZ, []⟩ .nils) (by rfl) (by rfl) (by rfl) (by rfl) fun h4 o4 x4 => ?_
    simp [C_precentorhand_Feed_Pred_0, o4.1, prC, vlC, vlZ]
    exact Tells.ok (outS h3 ⟨nm, 1, vlZ, vlZ, []⟩ _ (by omega) ⟨hn, .inl ⟨rfl, rfl, rfl, rfl⟩⟩ rfl rfl x03 f3 h4 o4 x4)
  · have e1 : (1 + r == 1) = false := beq_eq_false_iff_ne.2 (by omega)
    by_cases c2 : r = 8
    · subst c2
      simp [prC, vlC, vlZ, op.1]
      refine Tells.bind (Next hX 4 ⟨by decide, by decide⟩ f3 (by omega)) ?_
      rintro _ h4 ⟨u, rfl, u0, u1, _, x4, f4⟩
      have u1 := u1 (by decide)
      have op4 := op.ext x4 (by simpa using hne2.symm)
      have or4 := or3.ext x4 (by simpa using hne1.symm)
      obtain ⟨s, hs, hs2⟩ : ∃ s, s ∈ texts4 ∧ ixa1 4 1 (.agg [.str (bs []), .str (bs [97]), .str (bs [98]), .str (bs [97, 98])]) (I u) = some (.str s) := by
        have : u = 0 ∨ u = 1 ∨ u = 2 ∨ u = 3 := by omega
        rcases this with rfl | rfl | rfl | rfl
        · exact ⟨bs [], by simp [texts4], by rfl⟩
        · exact ⟨bs [97], by simp [texts4], by rfl⟩
        · exact ⟨bs [98], by simp [texts4], by rfl⟩
        · exact ⟨bs [97, 98], by simp [texts4], by rfl⟩
      simp [hs2, bldR, fillR, splice]
      refine Tells.st op4 (by rfl) (by rfl) (by simp [prC, vlC]) fun h5 op5 x5 => ?_
      have op5 : Ob h5 bp (prC ⟨nm, 9, ⟨3, 0, 0, s, false⟩, vlZ, []⟩ .nils) := by simpa [prC, vlC, vlZ, splice] using op5
      have or5 := or4.ext x5 (by simpa using hne3)
      have f5 := f4.ext x5 (by simpa using hne2)
      simp [prC, vlC, vlZ, op5.1]
      refine Tells.stN or5 (ds := prC ⟨nm, 9, ⟨3, 0, 0, s, false⟩, vlZ, []⟩ .nils) (by rfl) (by rfl) (by rfl) (by rfl) fun h6 o6 x6 => ?_
      simp [C_precentorhand_Feed_Pred_0, o6.1, prC, vlC, vlZ]
      have x05 : Ext [bf] h h5 := (x03.trans x4).then x5 fun z hz => .inr (by simp at hz; omega)
      exact Tells.ok (outS h5 ⟨nm, 9, ⟨3, 0, 0, s, false⟩, vlZ, []⟩ _ (by omega) ⟨hn, .inr (.inl ⟨rfl, ⟨s, hs, rfl⟩, rfl, rfl⟩)⟩ rfl rfl x05 f5 h6 o6 x6)
    · have e2 : (1 + r == 9) = false := beq_eq_false_iff_ne.2 (by omega)
      by_cases c3 : r = 9
      · subst c3
        simp [prC, vlC, vlZ, op.1]
        refine Tells.bind (Next hX 4 ⟨by decide, by decide⟩ f3 (by omega)) ?_
        rintro _ h4 ⟨u, rfl, u0, u1, _, x4, f4⟩
        have u1 := u1 (by decide)
        obtain ⟨u, rfl⟩ : ∃ n : Nat, u = n := ⟨u.toNat, by omega⟩
        have op4 := op.ext x4 (by simpa using hne2.symm)
        have or4 := or3.ext x4 (by simpa using hne1.symm)
        try simp
        refine Tells.bind (Tells.loop (fun n t g => ∃ (i : Nat) (sv : AVal) (set : List Vl), t 0 = .ptr bf 0 ∧ t 4 = .ptr br 0 ∧ t 5 = .ptr bp 0 ∧ t 6 = I ((u : Int) - i) ∧ i + n = u + 1 ∧ set.length = i ∧ (∀ x, x ∈ set → FedV x) ∧ Ob g bp (prC ⟨nm, 10, vlZ, vlZ, set⟩ sv) ∧ Ob g br [.str (bs []), I 0, I 0, I 0, .flt .f64 0, .str (bs []), .bool false, I 0, I 0, .flt .f64 0, .str (bs []), .bool false, .nils] ∧ Gl vlR h4 g sv set ∧ Wr h4 g sv ∧ Feed g bf (k + 2 + 2 * i) ∧ Ext [bf, bp] h4 g)
          (Q := fun p g => p.1 = .exit 1 ∧ p.2 4 = .ptr br 0 ∧ p.2 5 = .ptr bp 0 ∧ ∃ (sv : AVal) (set : List Vl), set.length = u + 1 ∧ (∀ x, x ∈ set → FedV x) ∧ Ob g bp (prC ⟨nm, 10, vlZ, vlZ, set⟩ sv) ∧ Ob g br [.str (bs []), I 0, I 0, I 0, .flt .f64 0, .str (bs []), .bool false, I 0, I 0, .flt .f64 0, .str (bs []), .bool false, .nils] ∧ Sl vlR g sv set ∧ Wr h4 g sv ∧ Feed g bf (k + 12) ∧ Ext [bf, bp] h4 g) ?_ (u + 1) _ _ ?_) ?_
        · rintro n t g ⟨i, sv, set, t0, t4, t5, t6, hi, hl, hf, po, ro, gs, ws, fg, xg⟩
          refine Tells.prot fun Q2 hQ2 => ?_
          unfold L_precentorhand_Feed_Pred_3
          have wu : IntKind.i64.wrap ((u : Int) - i - 1) = (u : Int) - i - 1 := wrap_id (by omega) (by omega)
          by_cases hc : i ≤ u
          · have hc' : (0 : Int) ≤ (u : Int) - i := by omega
            have hc2 : (i : Int) ≤ u := by omega
            simp [t6, hc', hc2, J_precentorhand_Feed_Pred_4, t5, t0, po.1, prC, vlC]
            refine Tells.cbE (ValueH hX fg (by omega)) ?_
            rintro _ g1 ⟨x, rfl, hx, x1', f1'⟩
            have po1 := po.ext x1' (by simpa using hne2.symm)
            have ro1 := ro.ext x1' (by simpa using hne1.symm)
            have gs1 := gs.ext x1' (fun b hb q => by simp at q; subst q; have := (gs.1.blk _ hb).1; rw [fg.m] at this; cases this)
            have ws1 := ws.ext x1'
            simp [po1.1, prC, vlC]
            refine Tells.app1WE gs1 ws1 (by rfl) (by rfl) (show vlR.rep g1 (vlC x) x from rfl) (by rfl) (by rfl) (by omega) (by decide) (by have := xg.next; have := x1'.next; omega) fun s3 h3' g3 w3 x3' y3 z3 => ?_
            have po3 := po1.ext x3' (gs1.1.ob po1)
            have ro3 := ro1.ext x3' (gs1.1.ob ro1)
            have f3' := f1'.ext x3' (fun q => by have := (gs1.1.blk _ q).1; rw [f1'.m] at this; cases this)
            try simp
            refine Tells.st1E po3 g3.1.cells g3.1.one (by simp [prC, vlC]) fun h4' po4 x4' => ?_
            have po4 : Ob h4' bp (prC ⟨nm, 10, vlZ, vlZ, set ++ [x]⟩ s3) := by simpa [prC, vlC, vlZ] using po4
            have ro4 := ro3.ext x4' (by simpa using hne3)
            have f4' := f3'.ext x4' (by simpa using hne2)
            simp [J_precentorhand_Feed_Pred_5, t6, wu]
            refine Tells.ok (hQ2 _ _ (.inl ⟨rfl, n - 1, by omega, i + 1, s3, set ++ [x], by simp [t0], by simp [t4], by simp [t5], by simp; omega, by omega, by simp; omega, ?_, po4, ro4, g3.extO x4' (by simpa using .inl po3.2.1), w3.ext x4', f4'.mono (by omega), ?_⟩))
            · intro z hz
              rcases List.mem_append.1 hz with q | q
              · exact hf z q
              · simp at q; subst q; exact hx
            · have x5 := y3 [bf, bp] (xg.trans (x1'.mono (by simp)))
              exact x5.trans (x4'.mono (by simp))
          · have hc' : ¬ (0 : Int) ≤ (u : Int) - i := by omega
            have hc2 : ¬ (i : Int) ≤ u := by omega
            simp [t6, hc', hc2]
            exact Tells.ok (hQ2 _ _ (.inr ⟨by simp, rfl, by simp [t4], by simp [t5], sv, set, by omega, hf, po, ro, gs.1, ws, fg.mono (by omega), xg⟩))
        · exact ⟨0, .nils, [], by simp, by simp, by simp, by simp, by omega, rfl, by simp, by simpa [prC, vlC, vlZ] using op4, or4, Gl.nil, fun b hb => by simp [AVal.blks] at hb, by simpa using f4, .refl⟩
        · rintro ⟨ex, t⟩ g ⟨rfl, t4, t5, sv, set, hl, hf, po, ro, gs, ws, fg, xg⟩
          refine (fin g ⟨nm, 10, vlZ, vlZ, set⟩ sv (k + 12) (Nat.le_refl _) ⟨hn, .inr (.inr (.inl ⟨rfl, rfl, rfl, by show 1 ≤ set.length; omega, by show set.length ≤ 4; omega, hf⟩))⟩ rfl po ro gs (ws.back (by have := x03.next; have := x4.next; omega)) ?_ fg t t4 t5 _ C_precentorhand_Feed_Pred_0).2
          exact (x03.trans x4).then xg fun z hz => by simp at hz; rcases hz with rfl | rfl; exact .inl (by simp); exact .inr lp
      · have e3 : (1 + r == 10) = false := beq_eq_false_iff_ne.2 (by omega)
        simp [prC, vlC, vlZ, op.1, e1, e2, e3, J_precentorhand_Feed_Pred_0]
        refine Tells.bind (ValueH hX f3 (by omega)) ?_
        rintro _ h4 ⟨x, rfl, hx, x4, f4⟩
        have op4 := op.ext x4 (by simpa using hne2.symm)
        have or4 := or3.ext x4 (by simpa using hne1.symm)
        try simp
        refine Tells.st op4 (by rfl) (by rfl) (by simp [prC, vlC]) fun h5 op5 x5 => ?_
        have op5 : Ob h5 bp (prC ⟨nm, 1 + r, x, vlZ, []⟩ .nils) := by simpa [prC, vlC, vlZ, splice] using op5
        have or5 := or4.ext x5 (by simpa using hne3)
        have f5 := f4.ext x5 (by simpa using hne2)
        have x05 : Ext [bf] h h5 := (x03.trans x4).then x5 fun z hz => .inr (by simp at hz; omega)
        by_cases c4 : r = 7
        · subst c4
          simp [prC, vlC, vlZ, op5.1]
          refine Tells.bind (ValueH hX f5 (by omega)) ?_
          rintro _ h6 ⟨y, rfl, hy, x6, f6⟩
          have op6 := op5.ext x6 (by simpa using hne2.symm)
          have or6 := or5.ext x6 (by simpa using hne1.symm)
          try simp
          refine Tells.st op6 (by rfl) (by rfl) (by simp [prC, vlC]) fun h7 op7 x7 => ?_
          have op7 : Ob h7 bp (prC ⟨nm, 8, x, y, []⟩ .nils) := by simpa [prC, vlC, vlZ, splice] using op7
          have or7 := or6.ext x7 (by simpa using hne3)
          have f7 := f6.ext x7 (by simpa using hne2)
          have x07 : Ext [bf] h h7 := (x05.trans x6).then x7 fun z hz => .inr (by simp at hz; omega)
          exact (fin h7 ⟨nm, 8, x, y, []⟩ .nils _ (by omega) ⟨hn, .inr (.inr (.inr (.inl ⟨rfl, hx, hy, rfl⟩)))⟩ rfl op7 or7 Sl.nil (fun b hb => by simp [AVal.blks] at hb) x07 f7 _ (by simp) (by simp) _ C_precentorhand_Feed_Pred_0).1
        · have e4 : (1 + r == 8) = false := beq_eq_false_iff_ne.2 (by omega)
          simp [prC, vlC, vlZ, op5.1, e4]
          exact (fin h5 ⟨nm, 1 + r, x, vlZ, []⟩ .nils _ (by omega) ⟨hn, .inr (.inr (.inr (.inr ⟨by show 2 ≤ 1 + r; omega, by show 1 + r ≤ 7; omega, hx, rfl, rfl⟩)))⟩ rfl op5 or5 Sl.nil (fun b hb => by simp [AVal.blks] at hb) x05 f5 _ (by simp) (by simp) _ C_precentorhand_Feed_Pred_0).1
end
end Go.Proofs.Ytbkfamdkdjajjaa

/-! A feed lives through a write into a row. -/
namespace Go.Proofs.Ytbkfamdkdjajjaa
open Go.Ab
theorem Feed.extCX {b : Nat} {h h' : Heap} {bf k : Nat} (f : Feed h bf k) (x : ExtC b h h') (hm : h.isM b = false) (hn : h.n0 ≤ b) : Feed h' bf k := by
  obtain ⟨L, a, xs, h1, h2, h3, h4, h5, h6⟩ := f
  have ap : Apart h b L := fun c hc => by
    have := h6 c hc
    refine ⟨by omega, fun r _ q => ?_⟩
    have := Heap.cls_eq q
    omega
  exact ⟨L, a, xs, h1.extC x hm, h2, h3, h4.extC (fun q => q) x ap, h5, by rw [x.n0]; exact h6⟩
end Go.Proofs.Ytbkfamdkdjajjaa

/-! What precentorhand's Filters tell. -/
namespace Go.Proofs.Ytbkfamdkdjajjaa
open Go.Ab

section
variable {X : XTab}

theorem FilterC (hX : OnlyKnown X) {h : Heap} {v : AVal} {fl : List Prd} (o : Sl prR h v fl) (hl : fl.length ≤ 1000) (hs : ∀ p, p ∈ fl → p.set.length ≤ 1000) :
    Tells (fun q => acallX Try.prog X q F_precentorhand_Filter [v] h) fun r h' => RowZ prF h.next h h' r fl ∧ Ext [] h h' := by
  refine R_precentorhand_Filter _ (hX _ _ rfl) ?_
  refine Tells.prot fun Q' hQ => ?_
  unfold S_precentorhand_Filter
  try simp
  refine Tells.bind (Tells.loop (fun n t g => ∃ i : Nat, t 0 = v ∧ t 4 = I i ∧ i + n = fl.length ∧ RowZ prF h.next h g (t 3) (fl.take i) ∧ Ext [] h g)
    (Q := fun p g => p.1 = .exit 0 ∧ RowZ prF h.next h g (p.2 3) fl ∧ Ext [] h g) ?_ fl.length _ _ ⟨0, by simp, by simp, by omega, by simpa using RowZ.nil, .refl⟩) ?_
  · rintro n t g ⟨i, t0, t4, hi, rz, xg⟩
    refine Tells.prot fun Q2 hQ2 => ?_
    unfold L_precentorhand_Filter_1
    have og := o.ext xg
    simp [t4, t0, og.len]
    refine Tells.cb (fun hc => ?_) (fun hc => ?_)
    · simp at hc
      obtain ⟨p, hp⟩ : ∃ p, fl[i]? = some p := ⟨_, List.getElem?_eq_getElem hc⟩
      have hps := hs p (List.mem_of_getElem? hp)
      obtain ⟨b, q, B, c, q1, q2, sv, rfl, os, _⟩ := og.at (n := 13) rfl (i := (i : Int)) (by omega) (by simpa using hp)
      have w : IntKind.i64.wrap ((i : Int) + 1) = i + 1 := wrap_id (by omega) (by omega)
      have q4 := q2.lda (n := 13) rfl
      have tk : fl.take (i + 1) = fl.take i ++ [p] := by rw [List.take_add_one, hp]; rfl
      simp [J_precentorhand_Filter_2, t0, t4, q1, q4]
      refine Tells.newSt (ds := prC p sv) (by rfl) (by rfl) (by rfl) (by simp [prC, vlC, os.one]) fun g1 bp op x1 l1 => ?_
      simp [prC, vlC, op.1]
      refine Tells.copy (os.ext x1) (by rfl) (by omega) (by decide) fun s2 g2 gs x2 w2 => ?_
      have op2 := op.e x2
      have rz2 := (rz.e x1).e x2
      try simp
      refine Tells.st1 op2 gs.1.cells gs.1.one (by simp [prC, vlC]) fun g3 op3 x3 => ?_
      have op3 : Ob g3 bp (prC p s2) := by simpa [prC, vlC] using op3
      have rz3 := rz2.extO x3 (by simpa using .inl op2.2.1)
      have n1 := xg.next
      have n2 := x1.next
      have n3 := x2.next
      have n4 := x3.next
      simp [op3.1, prC, vlC]
      refine Tells.appZ rz3 (by rfl) (by rfl) (x := p) (c := prC p s2) ⟨s2, rfl, gs.1.ext x3, fun d hd => ⟨?_, ?_⟩⟩ (by rfl) (by rfl) (by simp; omega) (by decide) (by omega) fun s4 g4 rz4 x4 y4 => ?_
      · rintro ⟨d', hd', e⟩
        have k1 := (w2 d hd).1
        rw [root_ext x3 (w2 d hd).2.2, root_ext x3 (by have := (rz2.1 d' hd').2.2; omega)] at e
        have k2 := root_le g2 d'
        have k3 := (rz.1 d' hd').2.2
        omega
      · have k1 := (w2 d hd).1
        rw [root_ext x3 (w2 d hd).2.2]
        omega
      · simp [J_precentorhand_Filter_3, t4, w]
        refine Tells.ok (hQ2 _ _ (.inl ⟨rfl, n - 1, by omega, i + 1, by simp [t0], by simp, by omega, by rw [tk]; simpa using rz4, ?_⟩))
        exact y4 [] (((xg.trans x1).trans x2).then x3 fun z hz => .inr (by simp at hz; omega))
    · simp at hc
      have hfl : fl.take i = fl := List.take_of_length_le (by omega)
      rw [hfl] at rz
      exact Tells.ok (hQ2 _ _ (.inr ⟨by simp, rfl, by simpa using rz, xg⟩))
  · rintro ⟨ex, t⟩ g ⟨rfl, rz, xg⟩
    simp [J_precentorhand_Filter_0]
    exact Tells.ok (hQ _ _ ⟨by simpa using rz, xg⟩)

/-- Names that do not fall. -/
def nmLe (a b : ByteArray) : Bool := Op.bytesLess a.toList b.toList || a.toList == b.toList
theorem nm_total : ∀ a, a ∈ names4 → ∀ b, b ∈ names4 → nmLe a b = false → nmLe b a = true := by decide +kernel
theorem nm_trans : ∀ a, a ∈ names4 → ∀ b, b ∈ names4 → ∀ c, c ∈ names4 → nmLe a b = true → nmLe b c = true → nmLe a c = true := by decide +kernel
def FedF (fl : List Prd) : Prop := fl.length ≤ 3 ∧ (∀ p, p ∈ fl → FedP p) ∧ fl.Pairwise fun p q => nmLe p.name q.name = true
theorem FedF.nil : FedF [] := ⟨by simp, by simp, by simp⟩
theorem FedP.set_le {p : Prd} (h : FedP p) : p.set.length ≤ 4 := by
  obtain ⟨_, h | h | h | h | h⟩ := h
  · rw [h.2.2.2]; simp
  · rw [h.2.2.2]; simp
  · exact h.2.2.2.2.1
  · rw [h.2.2.2]; simp
  · rw [h.2.2.2.2]; simp
/-- One more, in its place. -/
theorem FedF.ins {l : List Prd} {p : Prd} {j : Nat} (h : FedF l) (hp : FedP p) (h2 : l.length < 3) (hj : j ≤ l.length) (hi : ∀ x, x ∈ l.drop j → nmLe x.name p.name = false) (lo : 0 < j → ∀ x, l[j - 1]? = some x → nmLe x.name p.name = true) : FedF (l.take j ++ p :: l.drop j) := by
  obtain ⟨k1, k2, k3⟩ := h
  have up : ∀ x, x ∈ l.drop j → nmLe p.name x.name = true := fun x hx => nm_total _ (k2 x (List.mem_of_mem_drop hx)).1 _ hp.1 (hi x hx)
  have dn : ∀ x, x ∈ l.take j → nmLe x.name p.name = true := fun x hx => by
    by_cases h0 : 0 < j
    · have hlt : j - 1 < l.length := by omega
      have hl := List.getElem?_eq_getElem hlt
      have h3 := lo h0 _ hl
      obtain ⟨m, hm, e⟩ := List.getElem_of_mem hx
      simp at hm
      rw [List.getElem_take] at e
      by_cases hmj : m = j - 1
      · subst hmj; rw [← e]; exact h3
      · have := List.pairwise_iff_getElem.1 k3 m (j - 1) (by omega) hlt (by omega)
        rw [e] at this
        exact nm_trans _ (k2 x (List.mem_of_mem_take hx)).1 _ (k2 _ (List.getElem_mem hlt)).1 _ hp.1 this h3
    · have : j = 0 := by omega
      subst this
      simp at hx
  refine ⟨by simp; omega, fun x hx => ?_, ?_⟩
  · rcases List.mem_append.1 hx with q | q
    · exact k2 x (List.mem_of_mem_take q)
    · rcases List.mem_cons.1 q with q | q
      · rw [q]; exact hp
      · exact k2 x (List.mem_of_mem_drop q)
  · rw [List.pairwise_append]
    refine ⟨k3.take, List.pairwise_cons.2 ⟨up, k3.drop⟩, fun a ha b hb => ?_⟩
    rcases List.mem_cons.1 hb with q | q
    · rw [q]; exact dn a ha
    · rw [← List.take_append_drop j l, List.pairwise_append] at k3
      exact k3.2.2 a ha b q
theorem ins_list {α : Type} {l : List α} {z p : α} {j : Nat} (hj : j ≤ l.length) : ((l ++ [z]).take (j + 1) ++ ((l ++ [z]).drop j).take ((l ++ [z]).length - (j + 1))).set j p = l.take j ++ p :: l.drop j := by
  have e1 : ((l ++ [z]).drop j).take ((l ++ [z]).length - (j + 1)) = l.drop j := by
    rw [List.drop_append_of_le_length hj, List.take_append_of_le_length (by simp), List.take_of_length_le (by simp)]
  have e2 : ((l ++ [z]).take (j + 1)).length = j + 1 := by simp; omega
  have e3 : ((l ++ [z]).take (j + 1)).drop (j + 1) = [] := List.drop_eq_nil_of_le (by omega)
  rw [e1, List.set_append, if_pos (by omega), List.set_eq_take_append_cons_drop, if_pos (by omega), e3, List.take_take, Nat.min_eq_left (by omega), List.take_append_of_le_length hj]
  simp

def zeroP : Prd := ⟨bs [], 0, vlZ, vlZ, []⟩

theorem FilterH (hX : OnlyKnown X) {h : Heap} {bf k : Nat} (f : Feed h bf k) (hk : k < 2 ^ 59) :
    Tells (fun q => acallX Try.prog X q F_precentorhand_Feed_Filter [.ptr bf 0] h) fun r h' => ∃ fl, RowZ prF h.next h h' r fl ∧ FedF fl ∧ Ext [bf] h h' ∧ Feed h' bf (k + 60) := by
  refine R_precentorhand_Feed_Filter _ (hX _ _ rfl) ?_
  refine Tells.prot fun Q' hQ => ?_
  unfold S_precentorhand_Feed_Filter
  try simp
  refine Tells.bind (Next hX 4 ⟨by decide, by decide⟩ f (by omega)) ?_
  rintro _ h1 ⟨u, rfl, u0, u1, _, x1, f1⟩
  have u1 := u1 (by decide)
  have n1 := x1.next
  try simp
  refine Tells.bind (Tells.loop (fun n t g => ∃ (i : Nat) (l : List Prd), t 0 = .ptr bf 0 ∧ t 4 = I (u - i) ∧ (i : Int) ≤ u ∧ i + n = 5 ∧ RowZ prF h.next h g (t 3) l ∧ FedF l ∧ Ext [bf] h g ∧ Feed g bf (k + 1 + 14 * i))
    (Q := fun p g => p.1 = .exit 0 ∧ ∃ l : List Prd, RowZ prF h.next h g (p.2 3) l ∧ FedF l ∧ Ext [bf] h g ∧ Feed g bf (k + 60)) ?_ 5 _ _ ⟨0, [], by simp, by simp, by simp; omega, by omega, by simpa using RowZ.nil, FedF.nil, x1, by simpa using f1⟩) ?_
  · rintro n t g ⟨i, l, t0, t4, hiu, hi, rz, fl, xg, fg⟩
    refine Tells.prot fun Q2 hQ2 => ?_
    unfold L_precentorhand_Feed_Filter_1
    have ng := xg.next
    by_cases hc : 0 < u - i ∧ l.length < 3
    · obtain ⟨hc1, hc2⟩ := hc
      have hc3 : (i : Int) < u := by omega
      have hc4 : ((l.length : Int) < 3) := by omega
      simp [t4, hc1, hc3, rz.len, hc4, hc2, J_precentorhand_Feed_Filter_2, t0]
      refine Tells.bind (NameH hX fg (by omega)) ?_
      rintro _ g1 ⟨nm, rfl, hnm, y1, e1⟩
      have rz1 := rz.extO y1 (by simpa using .inl fg.m)
      have m1 := y1.next
      try simp [t0]
      refine Tells.bind (PredH hX e1 (by omega) hnm) ?_
      rintro _ g2 ⟨p, sv, rfl, hpn, hp, os, ws, y2, e2⟩
      have rz2 := rz1.extO y2 (by simpa using .inl e1.m)
      have m2 := y2.next
      try simp
      refine Tells.newSt (ds := prC p sv) (by rfl) (by rfl) (by rfl) (by simp [prC, vlC, os.one]) fun g3 bp op y3 l3 => ?_
      have rz3 := rz2.e y3
      have m3 := y3.next
      have hne : bf ≠ bp := by have := e2.lt; omega
      have e3 := e2.e y3
      have os3 := os.ext y3
      have X3 : Ext [bf] h g3 := ((xg.trans y1).trans y2).quiet y3
      have svn : ∀ d, d ∈ sv.blks → ¬ g3.isRoot (t 3) (g3.root d) ∧ h.next ≤ g3.root d ∧ g3.root d < g3.next := fun d hd => by
        obtain ⟨w1, w2, w3⟩ := ws d hd
        rw [root_ext y3 w3]
        have := root_le g2 d
        refine ⟨?_, by omega, by omega⟩
        rintro ⟨d', hd', e⟩
        have k3 := (rz1.1 d' hd').2.2
        rw [root_ext y3 (by omega), root_ext y2 k3] at e
        have k2 := root_le g1 d'
        omega
      try simp only [rz3.len, of_some, arb_val, lt_eq]
      try simp
      refine Tells.bind (Tells.loop (fun n t' g' => g' = g3 ∧ ∃ j : Nat, t' 0 = .ptr bf 0 ∧ t' 3 = t 3 ∧ t' 4 = I (u - i) ∧ t' 5 = .str nm ∧ t' 6 = .ptr bp 0 ∧ t' 7 = I j ∧ j = n ∧ j ≤ l.length ∧ ∀ x, x ∈ l.drop j → nmLe x.name nm = false)
        (Q := fun r g' => g' = g3 ∧ r.1 = .exit 2 ∧ ∃ j : Nat, r.2 0 = .ptr bf 0 ∧ r.2 3 = t 3 ∧ r.2 4 = I (u - i) ∧ r.2 5 = .str nm ∧ r.2 6 = .ptr bp 0 ∧ r.2 7 = I j ∧ j ≤ l.length ∧ (∀ x, x ∈ l.drop j → nmLe x.name nm = false) ∧ (0 < j → ∀ x, l[j - 1]? = some x → nmLe x.name nm = true)) ?_ l.length _ _ ⟨rfl, l.length, by simp [t0], by simp, by simp [t4], by simp, by simp, by simp, rfl, Nat.le_refl _, by simp⟩) ?_
      · rintro n' t' g' ⟨rfl, j, a0, a3, a4, a5, a6, a7, rfl, hj, hall⟩
        refine Tells.prot fun Q3 hQ3 => ?_
        unfold L_precentorhand_Feed_Filter_5
        by_cases h0 : 0 < j
        · obtain ⟨x, hx⟩ : ∃ x, l[j - 1]? = some x := ⟨_, List.getElem?_eq_getElem (by omega)⟩
          obtain ⟨b, q, B, c, q1, q2, sv', rfl, _⟩ := rz3.at (n := 13) rfl hx
          have w : IntKind.i64.wrap ((j : Int) - 1) = ((j - 1 : Nat) : Int) := by rw [wrap_id (by omega) (by omega)]; omega
          have q4 := q2.cell0 (by simp [prC])
          simp [prC] at q4
          have h0' : (0 : Int) < j := by omega
          simp [a7, h0, h0', a3, w, q1, q2.get, q4, a5]
          cases hle : nmLe x.name nm with
          | false =>
            have hle2 : (Op.bytesLess x.name.toList nm.toList || x.name.toList == nm.toList) = false := hle
            simp only [Bool.or_eq_false_iff] at hle2
            simp [hle2.1, hle2.2, J_precentorhand_Feed_Filter_6, a7, w]
            refine Tells.ok (hQ3 _ _ (.inl ⟨rfl, j - 1, by omega, rfl, j - 1, by simp [a0], by simp [a3], by simp [a4], by simp [a5], by simp [a6], by simp, rfl, by omega, fun z hz => ?_⟩))
            rw [List.drop_eq_getElem_cons (by omega), List.mem_cons] at hz
            rcases hz with q | q
            · rw [(List.getElem?_eq_some_iff.1 hx).2] at q
              rw [q]; exact hle
            · rw [show j - 1 + 1 = j by omega] at q
              exact hall z q
          | true =>
            have hle2 : (Op.bytesLess x.name.toList nm.toList || x.name.toList == nm.toList) = true := hle
            have done : ∀ t2 : T, t2 0 = t' 0 → t2 3 = t' 3 → t2 4 = t' 4 → t2 5 = t' 5 → t2 6 = t' 6 → t2 7 = t' 7 → Q3 (.exit 2, t2) g' := fun t2 b0 b3 b4 b5 b6 b7 => hQ3 _ _ (.inr ⟨by simp, rfl, rfl, j, b0.trans a0, b3.trans a3, b4.trans a4, b5.trans a5, b6.trans a6, b7.trans a7, hj, hall, fun _ z hz => by rw [hx] at hz; cases hz; exact hle⟩)
            rcases Bool.or_eq_true _ _ ▸ hle2 with q | q
            · simp [q]
              exact Tells.ok (done _ (by simp) (by simp) (by simp) (by simp) (by simp) (by simp))
            · simp [q]
              exact Tells.ok (done _ (by simp) (by simp) (by simp) (by simp) (by simp) (by simp))
        · have h0' : ¬ (0 : Int) < j := by omega
          simp [a7, h0, h0']
          exact Tells.ok (hQ3 _ _ (.inr ⟨by simp, rfl, rfl, j, by simp [a0], by simp [a3], by simp [a4], by simp [a5], by simp [a6], by simp [a7], hj, hall, fun q => absurd q h0⟩))
      · rintro ⟨ex, t'⟩ g' ⟨rfl, rfl, j, a0, a3, a4, a5, a6, a7, hj, hall, hlo⟩
        have a0 : t' 0 = .ptr bf 0 := a0
        have a3 : t' 3 = t 3 := a3
        have a4 : t' 4 = I (u - i) := a4
        have a6 : t' 6 = .ptr bp 0 := a6
        have a7 : t' 7 = I j := a7
        rw [← a3] at rz3 svn
        have wj : IntKind.i64.wrap ((j : Int) + 1) = (j : Int) + 1 := wrap_id (by omega) (by omega)
        have wu : IntKind.i64.wrap (u - (i : Int) - 1) = u - (i : Int) - 1 := wrap_id (by omega) (by omega)
        simp [J_precentorhand_Feed_Filter_4, bldR, fillR, splice]
        refine Tells.appZR rz3 (by rfl) (by rfl) (x := zeroP) (c := prC zeroP .nils) ⟨.nils, rfl, Sl.nil, fun c hc => by simp [AVal.blks] at hc⟩ (by rfl) (by rfl) (by omega) (by decide) (by omega) fun s4 g4 rz4 y4 z4 nr4 => ?_
        have m4 := y4.next
        have op4 := op.ext y4 (rz3.2.1.ob op)
        have e4 := e3.ext y4 (fun q => by have := (rz3.2.1.blk _ q).1; rw [e3.m] at this; cases this)
        have X4 := z4 [bf] X3
        obtain ⟨b5, d5, c5, v5, k1, k2, k3, k4, k5, g5, r5, k6, k7, rz5⟩ := rz4.cpy (n := 13) rfl (i := j) (by simp; omega)
        simp [a7, wj, k4, k5, k6]
        have op5 : Ob g5 bp (prC p sv) := op4.extC k7 k1
        have e5 := e4.extCX k7 k1 k3
        have os4 := os3.ext y4
        have ap5 : Apart g4 b5 sv := Apart.of fun c hc q => by
          obtain ⟨s1, s2, s3⟩ := svn c hc
          refine nr4 _ s3 s1 ⟨b5, by rw [v5]; simp, ?_⟩
          rw [← q, root_ext y4 (os3.blk c hc).2]
        have os5 : Sl vlR g5 sv p.set := os4.extC (fun q => q) k7 ap5
        have rep5 : (prF.r fun q => ¬ g5.isRoot s4 q ∧ h.next ≤ q).rep g5 (prC p sv) p := ⟨sv, rfl, os5, fun c hc => by
          obtain ⟨s1, s2, s3⟩ := svn c hc
          have er : g5.root c = g'.root c := by
            unfold Heap.root
            rw [k7.cls, y4.cls c (os3.blk c hc).2]
          rw [er]
          refine ⟨fun ⟨d, hd, e⟩ => nr4 _ s3 s1 ⟨d, hd, ?_⟩, s2⟩
          rw [e]
          unfold Heap.root
          rw [k7.cls]⟩
        obtain ⟨b6, q6, v6, i1, i2, i3, i4, i5, g6, i6, i7, rz6⟩ := rz5.putE (n := 13) rfl (i := j) (by simp; omega) rep5
        rw [ins_list hj] at rz6
        simp [a6, op5.1, a7, i5, i6 (.agg (prC p sv)) rfl, prC, vlC]
        have i6' := i6 (.agg (prC p sv)) rfl
        simp only [prC, vlC, List.cons_append, List.nil_append] at i6'
        simp [i6', J_precentorhand_Feed_Filter_3, a4, wu]
        have F6 : FedF (l.take j ++ p :: l.drop j) := fl.ins hp hc2 hj (by rw [hpn]; exact hall) (by rw [hpn]; exact hlo)
        refine Tells.ok (hQ2 _ _ (.inl ⟨rfl, n - 1, by omega, i + 1, _, by simp [a0], by simp; omega, by omega, by omega, by simpa using rz6, F6, (X4.extC k7 k2).extC i7 i3, (e5.extCX i7 i1 i4).mono (by omega)⟩))
    · have fin : ∀ t' : T, t' 3 = t 3 → Q2 (.exit 0, t') g := fun t' a3 => hQ2 _ _ (.inr ⟨by simp, rfl, l, by show RowZ prF h.next h g (t' 3) l; rw [a3]; exact rz, fl, xg, fg.mono (by omega)⟩)
      by_cases q : 0 < u - (i : Int)
      · have q2 : ¬ (l.length < 3) := fun k => hc ⟨q, k⟩
        have q3 : ¬ ((l.length : Int) < 3) := by omega
        have q4 : (i : Int) < u := by omega
        simp [t4, q, q4, rz.len, q2, q3]
        exact Tells.ok (fin _ (by simp))
      · have q4 : ¬ (i : Int) < u := by omega
        simp [t4, q, q4]
        exact Tells.ok (fin _ (by simp))
  · rintro ⟨ex, t⟩ g ⟨rfl, l, rz, fl, xg, fg⟩
    simp [J_precentorhand_Feed_Filter_0]
    exact Tells.ok (hQ _ _ ⟨l, by simpa using rz, fl, xg, fg⟩)
end
end Go.Proofs.Ytbkfamdkdjajjaa
