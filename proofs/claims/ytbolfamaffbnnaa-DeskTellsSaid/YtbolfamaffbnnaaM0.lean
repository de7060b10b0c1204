/-
  Texts of a claim, merged: HandP, Hand0, HandF, HandW, HandX, EqW, ValD6, FlB, ValC6, AttrD6, Known0, DeskA6, DeskB6, SubRN, FilCN.
-/
import Derived.MapKept
import Derived.WideShapes
import Derived.Laws.Closers25b
import Derived.Test.YtbolfamaffbnnaaB1
import Derived.Test.YtbolfamaffbnnaaSprecentorhand
import Derived.Test.YtbolfamaffbnnaaB3
import Derived.Test.YtbolfamaffbnnaaCell0
import Derived.Test.YtbolfamaffbnnaaSmath
import Derived.Test.YtbolfamaffbnnaaWrE
import Derived.Test.YtbolfamaffbnnaaEq2
import Derived.Test.YtbolfamaffbnnaaOps
import Derived.Test.YtbolfamaffbnnaaBitsF
import Derived.Test.YtbolfamaffbnnaaSfloat
import Derived.Test.YtbolfamaffbnnaaSprecentorref1
import Derived.Test.YtbolfamaffbnnaaSvalue
import Derived.Test.YtbolfamaffbnnaaSattr
import Derived.Test.YtbolfamaffbnnaaB2
import Derived.Test.YtbolfamaffbnnaaSIds
import Derived.Test.YtbolfamaffbnnaaSdesk
import Derived.Test.YtbolfamaffbnnaaSlN
import Derived.Test.YtbolfamaffbnnaaRawD
import Derived.Test.YtbolfamaffbnnaaSfilter
set_option linter.unusedVariables false
set_option linter.unusedSimpArgs false
/-! What precentorhand's Pick tells. -/
namespace Go.Proofs.Ytbolfamaffbnnaa
open Go.Ab

section
variable {X : XTab}

def pick (n m : Int) : Int := if m < 1 then 0 else if n.tmod m < 0 then n.tmod m + m else n.tmod m

theorem pick_lo (n m : Int) : 0 ≤ pick n m := by
  unfold pick
  split
  · omega
  · split
    · have := Int.lt_tmod_of_pos n (show 0 < m by omega); omega
    · omega
theorem pick_hi (n m : Int) (h : 1 ≤ m) : pick n m < m := by
  unfold pick
  have := Int.tmod_lt_of_pos n (show 0 < m by omega)
  split
  · omega
  · split <;> omega

theorem Pick (hX : OnlyKnown X) (n m : Int) (hm : In64 m) (h : Heap) : Tells (fun q => acallX Try.prog X q F_precentorhand_Pick [I n, I m] h) fun v h' => v = I (pick n m) ∧ h' = h := by
  refine R_precentorhand_Pick _ _ (hX _ _ rfl) ?_
  unfold S_precentorhand_Pick
  simp
  by_cases h1 : m < 1
  · simp [h1]
    exact Tells.ok ⟨by simp [pick, h1], rfl⟩
  · simp [h1, J_precentorhand_Pick_0, aBin_rem _ _ _ _ _ _ _ (show m ≠ 0 by omega)]
    by_cases h2 : n.tmod m < 0
    · simp [h2, J_precentorhand_Pick_1]
      refine Tells.ok ⟨?_, rfl⟩
      have := Int.lt_tmod_of_pos n (show 0 < m by omega)
      rw [wrap_id (by omega) (by have := hm.2; omega)]
      simp [pick, h1, h2]
    · simp [h2, J_precentorhand_Pick_1]
      exact Tells.ok ⟨by simp [pick, h1, h2], rfl⟩

end
end Go.Proofs.Ytbolfamaffbnnaa

/-! What precentorhand's Next tells. -/
namespace Go.Proofs.Ytbolfamaffbnnaa
open Go.Ab

/-- A feed of raw numbers, asked k times at most. -/
def Feed (h : Heap) (bf k : Nat) : Prop := ∃ L at_ xs, Ob h bf [L, I at_] ∧ 0 ≤ at_ ∧ at_ ≤ (k : Int) ∧ Sl intR h L xs ∧ xs.length < 2 ^ 63 ∧ ∀ c, c ∈ L.blks → c < h.n0
theorem Feed.ext {S : List Nat} {h h' : Heap} {bf k : Nat} (f : Feed h bf k) (e : Ext S h h') (hb : bf ∉ S) : Feed h' bf k := by
  obtain ⟨L, a, xs, h1, h2, h3, h4, h5, h6⟩ := f
  exact ⟨L, a, xs, h1.ext e hb, h2, h3, h4.ext e, h5, by rw [e.n0]; exact h6⟩
theorem Feed.e {h h' : Heap} {bf k : Nat} (f : Feed h bf k) (e : Ext [] h h') : Feed h' bf k := f.ext e (by simp)
theorem Feed.mono {h : Heap} {bf k k' : Nat} (f : Feed h bf k) (hk : k ≤ k') : Feed h bf k' := by
  obtain ⟨L, a, xs, h1, h2, h3, h4⟩ := f
  exact ⟨L, a, xs, h1, h2, by omega, h4⟩
theorem Feed.lt {h : Heap} {bf k : Nat} (f : Feed h bf k) : bf < h.next := by obtain ⟨L, a, xs, h1, _⟩ := f; exact h1.lt
theorem Feed.m {h : Heap} {bf k : Nat} (f : Feed h bf k) : h.isM bf = true := by obtain ⟨L, a, xs, h1, _⟩ := f; exact h1.2.1

section
variable {X : XTab}

theorem Next (hX : OnlyKnown X) (n : Int) (hn : In64 n) {h : Heap} {bf k : Nat} (f : Feed h bf k) (hk : k < 2 ^ 62) :
    Tells (fun q => acallX Try.prog X q F_precentorhand_Feed_Next [.ptr bf 0, I n] h) fun v h' => ∃ r, v = I r ∧ 0 ≤ r ∧ (1 ≤ n → r < n) ∧ (n < 1 → r = 0) ∧ Ext [bf] h h' ∧ Feed h' bf (k + 1) := by
  refine R_precentorhand_Feed_Next _ _ (hX _ _ rfl) ?_
  unfold S_precentorhand_Feed_Next
  obtain ⟨L, a, xs, h1, h2, h3, h4, h5, h6⟩ := f
  have hlen := h4.len
  by_cases hz : xs.length = 0
  · simp [h1.1, hlen, hz]
    exact Tells.ok ⟨0, rfl, by omega, fun _ => by omega, fun _ => rfl, .refl, ⟨L, a, xs, h1, h2, by omega, h4, h5, h6⟩⟩
  · have hl : (xs.length : Int) ≠ 0 := by omega
    have hl2 : ((xs.length : Int) == 0) = false := beq_eq_false_iff_ne.2 hl
    have m0 : 0 ≤ a.tmod xs.length := Int.tmod_nonneg _ h2
    have m1 : a.tmod xs.length < xs.length := Int.tmod_lt_of_pos _ (by omega)
    obtain ⟨x, hx⟩ : ∃ x, xs[(a.tmod xs.length).toNat]? = some x := ⟨_, List.getElem?_eq_getElem (by omega)⟩
    obtain ⟨b, p, B, c, q1, q2, q3⟩ := h4.at (n := 1) rfl m0 hx
    have d0 : 0 ≤ a.tdiv xs.length := Int.tdiv_nonneg h2 (by omega)
    have d1 : a.tdiv xs.length ≤ a := Int.tdiv_le_self _ h2
    have w1 : IntKind.i64.wrap (a.tdiv xs.length) = a.tdiv xs.length := wrap_id (by omega) (by omega)
    have w2 : IntKind.i64.wrap (1 + a.tdiv xs.length) = 1 + a.tdiv xs.length := wrap_id (by omega) (by omega)
    have w3 : IntKind.i64.wrap (a + 1) = a + 1 := wrap_id (by omega) (by omega)
    have q4 := q2.ld0 (x := I x) (by rw [q3]; rfl)
    obtain ⟨h', s1, s2, s3⟩ := h1.st (off := 1) (n := 1) (v := I (a + 1)) rfl rfl (by simp)
    simp only [ld1_ptr, cell_eq] at q4
    simp [h1.1, hlen, hl2, J_precentorhand_Feed_Next_0, aBin_rem _ _ _ _ _ _ _ hl, aBin_quo _ _ _ _ _ _ _ hl, q1, q4, w1, w2, aBin_quo _ _ _ _ _ _ _ (show 1 + a.tdiv xs.length ≠ 0 by omega), w3, s1]
    refine Tells.bind (Pick hX _ n hn _) ?_
    rintro v h' ⟨rfl, rfl⟩
    exact Tells.ok ⟨_, rfl, pick_lo _ _, pick_hi _ _, fun q => by simp [pick, q], s3, ⟨L, a + 1, xs, by simpa [splice] using s2, by omega, by omega, h4.ext s3, h5, by rw [s3.n0]; exact h6⟩⟩

end
end Go.Proofs.Ytbolfamaffbnnaa

/-! What precentorhand's Float tells. -/
namespace Go.Proofs.Ytbolfamaffbnnaa
open Go.Ab

section
variable {X : XTab}

theorem nat_bits (b : Nat) : aNat Try.prog F_math_Float64bits [.flt .f64 b] = some (.int .u64 b) := by kernel_rfl

theorem nat_frombits (n : Int) : aNat Try.prog F_math_Float64frombits [.int .u64 n] = some (.flt .f64 n.toNat) := by kernel_rfl

def fl14 : List Nat := [0, 9223372036854775808, 4607182418800017408, 4609434218613702656, 4611686018427387904, 4613937818241073152, 13830554455654793216, 4591870180066957722, 9221120237041090561, 9218868437227405312, 18442240474082181120, 4845873199050653696, 4890909195324358656, 1]

theorem Copysign0 (hX : OnlyKnown X) (h : Heap) : Tells (fun q => acallX Try.prog X q F_math_Copysign [.flt .f64 0, .flt .f64 13830554455654793216] h) fun r h' => r = .flt .f64 9223372036854775808 ∧ h' = h := by
  refine R_math_Copysign _ _ (hX _ _ rfl) ?_
  unfold S_math_Copysign
  have e1 : ∀ t x y, aBin Try.prog .andNot t x y (.int .u64 0) (.int .u64 9223372036854775808) = some (.int .u64 0) := fun t x y => by kernel_rfl
  have e2 : ∀ t x y, aBin Try.prog .and t x y (.int .u64 13830554455654793216) (.int .u64 9223372036854775808) = some (.int .u64 9223372036854775808) := fun t x y => by kernel_rfl
  have e3 : ∀ t x y, aBin Try.prog .or t x y (.int .u64 0) (.int .u64 9223372036854775808) = some (.int .u64 9223372036854775808) := fun t x y => by kernel_rfl
  have n1 := nat_bits 0
  have n2 := nat_bits 13830554455654793216
  have n3 := nat_frombits 9223372036854775808
  simp at n1 n2 n3
  simp [n1, n2, e1, e2, e3, n3]
  exact Tells.ok ⟨rfl, rfl⟩

theorem NaN_ (hX : OnlyKnown X) (h : Heap) : Tells (fun q => acallX Try.prog X q F_math_NaN [] h) fun r h' => r = .flt .f64 9221120237041090561 ∧ h' = h := by
  refine R_math_NaN (hX _ _ rfl) ?_
  unfold S_math_NaN
  have n3 := nat_frombits 9221120237041090561
  simp at n3
  simp [n3]
  exact Tells.ok ⟨rfl, rfl⟩

theorem Inf_ (hX : OnlyKnown X) (s : Int) (h : Heap) : Tells (fun q => acallX Try.prog X q F_math_Inf [I s] h) fun r h' => r = .flt .f64 (if 0 ≤ s then 9218868437227405312 else 18442240474082181120) ∧ h' = h := by
  refine R_math_Inf _ (hX _ _ rfl) ?_
  unfold S_math_Inf
  have n3 := nat_frombits 9218868437227405312
  have n4 := nat_frombits 18442240474082181120
  simp at n3 n4
  by_cases q : 0 ≤ s
  · simp [q, J_math_Inf_0, n3]
    exact Tells.ok ⟨rfl, rfl⟩
  · simp [q, J_math_Inf_0, n4]
    exact Tells.ok ⟨rfl, rfl⟩

theorem FloatH (hX : OnlyKnown X) {h : Heap} {bf k : Nat} (f : Feed h bf k) (hk : k < 2 ^ 62) :
    Tells (fun q => acallX Try.prog X q F_precentorhand_Feed_Float [.ptr bf 0] h) fun r h' => ∃ x, r = .flt .f64 x ∧ x ∈ fl14 ∧ Ext [bf] h h' ∧ Feed h' bf (k + 1) := by
  refine R_precentorhand_Feed_Float _ (hX _ _ rfl) ?_
  refine Tells.prot fun Q' hQ => ?_
  unfold S_precentorhand_Feed_Float
  try simp
  refine Tells.bind (Copysign0 hX h) ?_
  rintro _ h ⟨rfl, rfl⟩
  try simp
  refine Tells.bind (NaN_ hX h) ?_
  rintro _ h ⟨rfl, rfl⟩
  try simp
  refine Tells.bind (Inf_ hX 1 h) ?_
  rintro _ h ⟨rfl, rfl⟩
  try simp
  refine Tells.bind (Inf_ hX (-1) h) ?_
  rintro _ h ⟨rfl, rfl⟩
  simp [bldR, fillR, splice]
  refine Tells.newSt (ds := fl14.map fun x => .flt .f64 x) (by rfl) (by rfl) (by rfl) (by rfl) fun h1 bl o1 x1 l1 => ?_
  try simp
  refine Tells.bind (Next hX 14 ⟨by decide, by decide⟩ (f.e x1) hk) ?_
  rintro _ h2 ⟨r, rfl, r0, r1, _, x2, f2⟩
  have r1 := r1 (by decide)
  obtain ⟨n, rfl⟩ : ∃ n : Nat, r = n := ⟨r.toNat, by omega⟩
  have hn : n < 14 := by omega
  have hp := ixp_at (len := 14) (z := 1) (b := bl) (o := 0) hn
  rw [Nat.mul_one] at hp
  have o2 := o1.ext x2 (by have := f.lt; simp; omega)
  obtain ⟨x, hx⟩ : ∃ x, fl14[n]? = some x := ⟨_, List.getElem?_eq_getElem (by simpa [fl14] using hn)⟩
  have hx2 : (fl14.map fun x => AVal.flt .f64 x)[n]? = some (.flt .f64 x) := by rw [List.getElem?_map, hx]; rfl
  rw [Nat.zero_add] at hp
  simp only [hp, of_some, arb_val, ld1_ptr, cell_eq, o2.1, hx2, lt_eq, retK_ret, resK_tmp, resK_nil, upd_same, one_one, bind_ok']
  exact Tells.ok (hQ _ _ ⟨x, rfl, List.mem_of_getElem? hx, x1.of.then x2 fun z hz => .inl hz, f2⟩)

end
end Go.Proofs.Ytbolfamaffbnnaa

/-! What precentorhand's Value tells. -/
namespace Go.Proofs.Ytbolfamaffbnnaa
open Go.Ab

section
variable {X : XTab}

/-- A value: its kind, whole number, float's bits, text, bool. -/
structure Vl where
  k : Int
  n : Int
  x : Nat
  s : ByteArray
  b : Bool

def vlC (v : Vl) : List AVal := [I v.k, I v.n, .flt .f64 v.x, .str v.s, .bool v.b]

def texts6 : List ByteArray := [bs [], bs [97], bs [97, 98], bs [98], bs [98, 97], bs [116, 119, 101, 108, 118, 101, 32, 98, 121, 116, 101, 115]]

def ints6 : List Int := [-9223372036854775808, 9223372036854775807, 9007199254740992, 9007199254740993, -1, 4611686018427387904]

/-- A value that the feed tells. -/
def FedV (v : Vl) : Prop := (v.k = 1 ∧ v.x = 0 ∧ v.s = bs [] ∧ v.b = false ∧ In64 v.n) ∨ (v.k = 2 ∧ v.n = 0 ∧ v.x ∈ fl14 ∧ v.s = bs [] ∧ v.b = false) ∨
  (v.k = 3 ∧ v.n = 0 ∧ v.x = 0 ∧ v.s ∈ texts6 ∧ v.b = false) ∨ (v.k = 4 ∧ v.n = 0 ∧ v.x = 0 ∧ v.s = bs [])

theorem ValueH (hX : OnlyKnown X) {h : Heap} {bf k : Nat} (f : Feed h bf k) (hk : k < 2 ^ 61) :
    Tells (fun q => acallX Try.prog X q F_precentorhand_Feed_Value [.ptr bf 0] h) fun r h' => ∃ v, r = .agg (vlC v) ∧ FedV v ∧ Ext [bf] h h' ∧ Feed h' bf (k + 2) := by
  refine R_precentorhand_Feed_Value _ (hX _ _ rfl) ?_
  refine Tells.prot fun Q' hQ => ?_
  unfold S_precentorhand_Feed_Value
  try simp
  refine Tells.new fun h1 bv o1 x1 l1 => ?_
  have hne : bf ≠ bv := by have := f.lt; omega
  try simp
  refine Tells.bind (Next hX 8 ⟨by decide, by decide⟩ (f.e x1) (by omega)) ?_
  rintro _ h2 ⟨r, rfl, r0, r1, _, x2, f2⟩
  have o2 := o1.ext x2 (by simpa using hne.symm)
  have x02 : Ext [bf] h h2 := x1.of.then x2 fun z hz => .inl hz
  -- the end of each way
  have fin : ∀ (g : Heap) (v : Vl) (K : Nat), K ≤ k + 2 → FedV v → Ob g bv (vlC v) → Ext [bf] h g → Feed g bf K → Q' (.agg (vlC v)) g := fun g v K hK hv o x f => hQ _ _ ⟨v, rfl, hv, x, f.mono hK⟩
  have xs : ∀ {g g' : Heap}, Ext [bf] h g → Ext [bv] g g' → Ext [bf] h g' := fun a b => a.then b fun z hz => .inr (by simp at hz; omega)
  have one : ∀ (ty : Nat), (∀ h a, aLoad Try.prog h ty a = ldn 5 h a) → ∀ (t : T) (q : Bool), t 0 = .ptr bf 0 → t 2 = .ptr bv 0 → t 6 = I r → t 7 = .bool q → Tells (fun m => J_precentorhand_Feed_Value_1 Try.prog (acallX Try.prog X m) m (blkK 0 (sqK (J_precentorhand_Feed_Value_0 Try.prog (acallX Try.prog X m) m (retK Try.prog [.cell 2 ty])) (retK Try.prog [.cell 2 ty]))) t h2) Q' := by
    intro ty hty t q t0 t2 t6 t7
    unfold J_precentorhand_Feed_Value_1
    cases q with
    | true =>
      simp [t7, t0]
      refine Tells.bind (FloatH hX f2 (by omega)) ?_
      rintro _ h3 ⟨x, rfl, hx, x3, f3⟩
      have o3 := o2.ext x3 (by simpa using hne.symm)
      simp [bldR, fillR, splice, t2]
      refine Tells.stN o3 (ds := vlC ⟨2, 0, x, bs [], false⟩) (by rfl) (by rfl) (by rfl) (by rfl) fun h4 o4 x4 => ?_
      simp [t2, hty, o4.1]
      exact Tells.ok (fin h4 ⟨2, 0, x, bs [], false⟩ (k + 2) (Nat.le_refl _) (.inr (.inl ⟨rfl, rfl, hx, rfl, rfl⟩)) o4 (xs (x02.trans x3) x4) (f3.ext x4 (by simpa using hne)))
    | false =>
      by_cases c2 : r = 2
      · simp [t7, t6, c2, bldR, fillR, splice]
        refine Tells.newSt (ds := texts6.map AVal.str) (by rfl) (by rfl) (by rfl) (by rfl) fun h3 bl o3 x3 l3 => ?_
        have f3 := f2.e x3
        simp [t0]
        refine Tells.bind (Next hX 6 ⟨by decide, by decide⟩ f3 (by omega)) ?_
        rintro _ h4 ⟨u, rfl, u0, u1, _, x4, f4⟩
        have u1 := u1 (by decide)
        obtain ⟨n, rfl⟩ : ∃ n : Nat, u = n := ⟨u.toNat, by omega⟩
        have hn : n < 6 := by omega
        have hp := ixp_at (len := 6) (z := 1) (b := bl) (o := 0) hn
        rw [Nat.mul_one, Nat.zero_add] at hp
        have o4 := o3.ext x4 (by have := f2.lt; simp; omega)
        have v4 := (o2.e x3).ext x4 (by simpa using hne.symm)
        obtain ⟨s, hs⟩ : ∃ s, texts6[n]? = some s := ⟨_, List.getElem?_eq_getElem (by simpa [texts6] using hn)⟩
        have hs2 : (texts6.map AVal.str)[n]? = some (.str s) := by rw [List.getElem?_map, hs]; rfl
        simp only [hp, of_some, arb_val, ld1_ptr, cell_eq, o4.1, hs2, lt_eq]
        simp [t2]
        refine Tells.stN v4 (ds := vlC ⟨3, 0, 0, s, false⟩) (by rfl) (by rfl) (by rfl) (by rfl) fun h5 o5 x5 => ?_
        simp [t2, hty, o5.1]
        exact Tells.ok (fin h5 ⟨3, 0, 0, s, false⟩ (k + 2) (Nat.le_refl _) (.inr (.inr (.inl ⟨rfl, rfl, rfl, List.mem_of_getElem? hs, rfl⟩))) o5 (xs ((x02.quiet x3).trans x4) x5) (f4.ext x5 (by simpa using hne)))
      · have e2 : (r == 2) = false := beq_eq_false_iff_ne.2 c2
        by_cases c3 : r = 3
        · simp [t7, t6, c3, t0]
          refine Tells.bind (Next hX 2 ⟨by decide, by decide⟩ f2 (by omega)) ?_
          rintro _ h3 ⟨u, rfl, _, _, _, x3, f3⟩
          have o3 := o2.ext x3 (by simpa using hne.symm)
          simp [bldR, fillR, splice, t2]
          refine Tells.stN o3 (ds := vlC ⟨4, 0, 0, bs [], u == 1⟩) (by rfl) (by rfl) (by rfl) (by rfl) fun h4 o4 x4 => ?_
          simp [t2, hty, o4.1]
          exact Tells.ok (fin h4 ⟨4, 0, 0, bs [], u == 1⟩ (k + 2) (Nat.le_refl _) (.inr (.inr (.inr ⟨rfl, rfl, rfl, rfl⟩))) o4 (xs (x02.trans x3) x4) (f3.ext x4 (by simpa using hne)))
        · have e3 : (r == 3) = false := beq_eq_false_iff_ne.2 c3
          by_cases c4 : r = 4
          · simp [t7, t6, c4, bldR, fillR, splice]
            refine Tells.newSt (ds := ints6.map I) (by rfl) (by rfl) (by rfl) (by rfl) fun h3 bl o3 x3 l3 => ?_
            have f3 := f2.e x3
            simp [t0]
            refine Tells.bind (Next hX 6 ⟨by decide, by decide⟩ f3 (by omega)) ?_
            rintro _ h4 ⟨u, rfl, u0, u1, _, x4, f4⟩
            have u1 := u1 (by decide)
            obtain ⟨n, rfl⟩ : ∃ n : Nat, u = n := ⟨u.toNat, by omega⟩
            have hn : n < 6 := by omega
            have hp := ixp_at (len := 6) (z := 1) (b := bl) (o := 0) hn
            rw [Nat.mul_one, Nat.zero_add] at hp
            have o4 := o3.ext x4 (by have := f2.lt; simp; omega)
            have v4 := (o2.e x3).ext x4 (by simpa using hne.symm)
            obtain ⟨s, hs⟩ : ∃ s, ints6[n]? = some s := ⟨_, List.getElem?_eq_getElem (by simpa [ints6] using hn)⟩
            have hs2 : (ints6.map I)[n]? = some (I s) := by rw [List.getElem?_map, hs]; rfl
            have hin : In64 s := by
              have : s ∈ ints6 := List.mem_of_getElem? hs
              simp [ints6] at this
              unfold In64
              omega
            simp only [hp, of_some, arb_val, ld1_ptr, cell_eq, o4.1, hs2, lt_eq]
            simp [t2]
            refine Tells.stN v4 (ds := vlC ⟨1, s, 0, bs [], false⟩) (by rfl) (by rfl) (by rfl) (by rfl) fun h5 o5 x5 => ?_
            simp [t2, hty, o5.1]
            exact Tells.ok (fin h5 ⟨1, s, 0, bs [], false⟩ (k + 2) (Nat.le_refl _) (.inl ⟨rfl, rfl, rfl, rfl, hin⟩) o5 (xs ((x02.quiet x3).trans x4) x5) (f4.ext x5 (by simpa using hne)))
          · have e4 : (r == 4) = false := beq_eq_false_iff_ne.2 c4
            simp [t7, t6, e2, e3, e4, J_precentorhand_Feed_Value_0, t0]
            refine Tells.bind (Next hX 5 ⟨by decide, by decide⟩ f2 (by omega)) ?_
            rintro _ h3 ⟨u, rfl, u0, u1, _, x3, f3⟩
            have u1 := u1 (by decide)
            have o3 := o2.ext x3 (by simpa using hne.symm)
            simp [bldR, fillR, splice, t2]
            refine Tells.stN o3 (ds := vlC ⟨1, u, 0, bs [], false⟩) (by rfl) (by rfl) (by rfl) (by rfl) fun h4 o4 x4 => ?_
            simp [t2, hty, o4.1]
            have hu : In64 u := ⟨by omega, by omega⟩
            exact Tells.ok (fin h4 ⟨1, u, 0, bs [], false⟩ (k + 2) (Nat.le_refl _) (.inl ⟨rfl, rfl, rfl, rfl, hu⟩) o4 (xs (x02.trans x3) x4) (f3.ext x4 (by simpa using hne)))
  by_cases c0 : r = 0
  · subst c0
    try simp
    exact one _ C_precentorhand_Feed_Value_0 _ _ (by simp) (by simp) (by simp) (by simp; rfl)
  · have e0 : (r == 0) = false := beq_eq_false_iff_ne.2 c0
    simp [e0]
    exact one _ C_precentorhand_Feed_Value_0 _ (r == 1) (by simp) (by simp) (by simp) (by simp)

end
end Go.Proofs.Ytbolfamaffbnnaa

/-! The attributes of the feed. -/
namespace Go.Proofs.Ytbolfamaffbnnaa
open Go.Ab

section
variable {X : XTab}

abbrev Att := ByteArray × Vl

def attC (a : Att) : List AVal := .str a.1 :: vlC a.2

def attrR : Rp Att := ⟨6, by decide, fun _ cs x => cs = attC x, fun h => by rw [h]; rfl, fun h => by rw [h]; rfl, fun h _ => h⟩

def names5 : List ByteArray := [bs [97], bs [98], bs [99], bs [100], bs [108, 111, 110, 103]]

theorem AttrsW (hX : OnlyKnown X) {h : Heap} {bf k : Nat} (f : Feed h bf k) (hk : k < 2 ^ 60) :
    Tells (fun q => acallX Try.prog X q F_precentorhand_Feed_Attrs [.ptr bf 0] h) fun r h' => ∃ ats : List Att, Gl attrR h h' r ats ∧ Wr h h' r ∧ ats.length ≤ 5 ∧ (ats.map (·.1)).Sublist names5 ∧ (∀ a, a ∈ ats → FedV a.2) ∧ Ext [bf] h h' ∧ Feed h' bf (k + 15) := by
  refine R_precentorhand_Feed_Attrs _ (hX _ _ rfl) ?_
  refine Tells.prot fun Q' hQ => ?_
  unfold S_precentorhand_Feed_Attrs
  simp [bldR, fillR, splice]
  refine Tells.newSt (ds := names5.map AVal.str) (by rfl) (by rfl) (by rfl) (by rfl) fun h1 bl o1 x1 l1 => ?_
  have hne : bf ≠ bl := by have := f.lt; omega
  try simp
  refine Tells.bind (Tells.loop (fun n t g => ∃ (i : Nat) (ats : List Att), t 0 = .ptr bf 0 ∧ t 4 = .ptr bl 0 ∧ t 5 = I i ∧ i + n = 5 ∧ Gl attrR h g (t 3) ats ∧ Wr h g (t 3) ∧ ats.length ≤ i ∧ (ats.map (·.1)).Sublist (names5.take i) ∧ (∀ a, a ∈ ats → FedV a.2) ∧ Ob g bl (names5.map AVal.str) ∧ Ext [bf] h g ∧ Feed g bf (k + 3 * i))
    (Q := fun p g => p.1 = .exit 0 ∧ ∃ ats : List Att, Gl attrR h g (p.2 3) ats ∧ Wr h g (p.2 3) ∧ ats.length ≤ 5 ∧ (ats.map (·.1)).Sublist names5 ∧ (∀ a, a ∈ ats → FedV a.2) ∧ Ext [bf] h g ∧ Feed g bf (k + 15)) ?_ 5 _ _ ?_) ?_
  · rintro n t g ⟨i, ats, t0, t4, t5, hi, ga, wa, hl, hs, hv, on, x, f⟩
    refine Tells.prot fun Q2 hQ2 => ?_
    unfold L_precentorhand_Feed_Attrs_1
    by_cases hc : i < 5
    · have w : IntKind.i64.wrap ((i : Int) + 1) = i + 1 := wrap_id (by omega) (by omega)
      have quo : ∀ t x y, aBin Try.prog .quo t x y (I i) (I 3) = some (I (IntKind.i64.wrap ((i : Int).tdiv 3))) := fun t x y => aBin_quo _ _ _ _ _ _ _ (by decide)
      simp [t5, show (i : Int) < 5 by omega, J_precentorhand_Feed_Attrs_2, t0]
      refine Tells.bind (Next hX 3 ⟨by decide, by decide⟩ f (by omega)) ?_
      rintro _ g1 ⟨r, rfl, r0, r1, _, x2, f2⟩
      have on1 := on.ext x2 (by simpa using hne.symm)
      have ga1 := ga.extO x2 (by simpa using .inl f.m)
      have htk : names5.take (i + 1) = names5.take i ++ (names5[i]?).toList := List.take_add_one
      obtain ⟨nm, hnm⟩ : ∃ s, names5[i]? = some s := ⟨_, List.getElem?_eq_getElem (by simpa [names5] using hc)⟩
      have hnm2 : (names5.map AVal.str)[i]? = some (.str nm) := by rw [List.getElem?_map, hnm]; rfl
      have hp := ixp_at (len := 5) (z := 1) (b := bl) (o := 0) hc
      rw [Nat.mul_one, Nat.zero_add] at hp
      rw [hnm] at htk
      simp [t5, quo]
      refine Tells.cb (fun hc2 => ?_) (fun hc2 => ?_)
      · simp only [t4, t5, t0, hp, of_some, obv_val, ld1_ptr, cell_eq, on1.1, hnm2, ifb_true, arbE_call, lt_eq]
        refine Tells.cbE (ValueH hX f2 (by omega)) ?_
        rintro _ g2 ⟨v, rfl, hv2, x3, f3⟩
        have on2 := on1.ext x3 (by simpa using hne.symm)
        have ga2 := ga1.extO x3 (by simpa using .inl f2.m)
        simp only [ld1_ptr, cell_eq, on2.1, hnm2, of_some, arVal_val, isV_self, Bool.and_true, ifb_true]
        have hb : bldR [.str (bs []), .int .i64 0, .int .i64 0, .flt .f64 0, .str (bs []), .bool false] [(0, 1, .str nm), (1, 5, .agg (vlC v))] = some (.agg (attC (nm, v))) := by
          simp [bldR, fillR, splice, attC, vlC]
        simp only [hb, of_some, obv_val]
        refine Tells.app1WE ga2 ((wa.ext x2).ext x3) (by rfl) (by rfl) (show attrR.rep g2 (attC (nm, v)) (nm, v) from rfl) (by rfl) (by rfl) (by omega) (by decide) ((x.trans x2).trans x3).next fun s6 h6 g6 w6 x6 y6 z6 => ?_
        have on6 := on2.ext x6 (ga2.1.ob on2)
        have f6 := f3.ext x6 (fun q => by have := (ga2.1.blk _ q).1; rw [f3.m] at this; cases this)
        simp [J_precentorhand_Feed_Attrs_3, t5, w]
        refine Tells.ok (hQ2 _ _ (.inl ⟨rfl, n - 1, by omega, i + 1, ats ++ [(nm, v)], by simp [t0], by simp [t4], by simp, by omega, by simpa using g6, by simpa using w6, by simp; omega, ?_, fun a ha => ?_, on6, y6 _ ((x.trans x2).trans x3), f6.mono (by omega)⟩))
        · rw [htk, List.map_append]
          exact hs.append (by simp)
        · rcases List.mem_append.1 ha with q | q
          · exact hv a q
          · simp at q; subst q; exact hv2
      · simp [J_precentorhand_Feed_Attrs_3, t5, w]
        refine Tells.ok (hQ2 _ _ (.inl ⟨rfl, n - 1, by omega, i + 1, ats, by simp [t0], by simp [t4], by simp, by omega, by simpa using ga1, by simpa using wa.ext x2, by omega, ?_, hv, on1, x.trans x2, f2.mono (by omega)⟩))
        rw [htk]
        exact hs.trans (List.sublist_append_left _ _)
    · have : i = 5 := by omega
      subst this
      simp [t5]
      exact Tells.ok (hQ2 _ _ (.inr ⟨by simp, rfl, ats, by simpa using ga, by simpa using wa, hl, hs, hv, x, f⟩))
  · exact ⟨0, [], by simp, by simp, by simp, by omega, by simpa using Gl.nil, fun b hb => by simp [AVal.blks] at hb, by simp, by simp, by simp, o1, x1.of, f.e x1⟩
  · rintro ⟨ex, t⟩ g ⟨rfl, ats, ga, wa, hl, hs, hv, x, f⟩
    simp [J_precentorhand_Feed_Attrs_0]
    exact Tells.ok (hQ _ _ ⟨ats, ga, wa, hl, hs, hv, x, f⟩)

theorem AttrsH (hX : OnlyKnown X) {h : Heap} {bf k : Nat} (f : Feed h bf k) (hk : k < 2 ^ 60) :
    Tells (fun q => acallX Try.prog X q F_precentorhand_Feed_Attrs [.ptr bf 0] h) fun r h' => ∃ ats : List Att, Gl attrR h h' r ats ∧ ats.length ≤ 5 ∧ (ats.map (·.1)).Sublist names5 ∧ (∀ a, a ∈ ats → FedV a.2) ∧ Ext [bf] h h' ∧ Feed h' bf (k + 15) := by
  exact (AttrsW hX f hk).mono fun _ _ ⟨ats, ga, _, q⟩ => ⟨ats, ga, q⟩

end
end Go.Proofs.Ytbolfamaffbnnaa

/-! Values compared as structs. -/
namespace Go.Proofs.Ytbolfamaffbnnaa
open Go Go.Ab

theorem aPure_eqFlt {P : Program} {t : TypeId} {k : FloatKind} (h : P.underlying t = some (.float k)) (d : Nat) (a b : Nat) : aPure P (Op.equalIn (d + 1) t (.float k a) (.float k b)) = some (Op.floatEq k a b) := by
  simp only [Op.equalIn, aPure_bind, aPure_und h, Option.bind_some]
  simp [aPure_pure]
theorem aPure_eqStr {P : Program} {t : TypeId} (h : P.underlying t = some .string) (d : Nat) (a b : ByteArray) : aPure P (Op.equalIn (d + 1) t (.string a) (.string b)) = some (a == b) := by
  simp only [Op.equalIn, aPure_bind, aPure_und h, Option.bind_some]
  simp [aPure_pure]
theorem aPure_eqBool {P : Program} {t : TypeId} (h : P.underlying t = some .bool) (d : Nat) (a b : Bool) : aPure P (Op.equalIn (d + 1) t (.bool a) (.bool b)) = some (a == b) := by
  simp only [Op.equalIn, aPure_bind, aPure_und h, Option.bind_some]
  simp [aPure_pure]
theorem aPure_partF {P : Program} {t : TypeId} {k : FloatKind} (h : P.underlying t = some (.float k)) {cs : Array Value} {off : Nat} {v : Value} (hv : cs[off]? = some v) : aPure P (part t cs off) = some v := by
  simp only [part, isAgg, aPure_bind, aPure_und h, Option.bind_some]
  simp [aPure_pure, hv]
theorem aPure_partS {P : Program} {t : TypeId} (h : P.underlying t = some .string) {cs : Array Value} {off : Nat} {v : Value} (hv : cs[off]? = some v) : aPure P (part t cs off) = some v := by
  simp only [part, isAgg, aPure_bind, aPure_und h, Option.bind_some]
  simp [aPure_pure, hv]
theorem aPure_partB {P : Program} {t : TypeId} (h : P.underlying t = some .bool) {cs : Array Value} {off : Nat} {v : Value} (hv : cs[off]? = some v) : aPure P (part t cs off) = some v := by
  simp only [part, isAgg, aPure_bind, aPure_und h, Option.bind_some]
  simp [aPure_pure, hv]
def vlV (v : Vl) : Value := .agg #[.int .i64 v.k, .int .i64 v.n, .float .f64 v.x, .string v.s, .bool v.b]
def eqVl (v w : Vl) : Bool := v.k == w.k && (v.n == w.n && (Op.floatEq .f64 v.x w.x && (v.s == w.s && v.b == w.b)))
theorem aPure_eq5 {P : Program} {t t0 t1 t2 t3 t4 : TypeId} {f0 f1 f2 f3 f4 : Field} (hu : P.underlying t = some (.struct #[f0, f1, f2, f3, f4])) (e0 : f0.name ≠ "_" ∧ f0.type = t0 ∧ f0.offset = 0) (e1 : f1.name ≠ "_" ∧ f1.type = t1 ∧ f1.offset = 1) (e2 : f2.name ≠ "_" ∧ f2.type = t2 ∧ f2.offset = 2)
    (e3 : f3.name ≠ "_" ∧ f3.type = t3 ∧ f3.offset = 3) (e4 : f4.name ≠ "_" ∧ f4.type = t4 ∧ f4.offset = 4) (u0 : P.underlying t0 = some (.int .i64)) (u1 : P.underlying t1 = some (.int .i64)) (u2 : P.underlying t2 = some (.float .f64)) (u3 : P.underlying t3 = some .string) (u4 : P.underlying t4 = some .bool)
    (hs : P.stoodInHeld t = false) (d : Nat) (v w : Vl) : aPure P (Op.equalIn (d + 2) t (vlV v) (vlV w)) = some (eqVl v w) := by
  obtain ⟨n0, y0, o0⟩ := e0
  obtain ⟨n1, y1, o1⟩ := e1
  obtain ⟨n2, y2, o2⟩ := e2
  obtain ⟨n3, y3, o3⟩ := e3
  obtain ⟨n4, y4, o4⟩ := e4
  unfold vlV
  rw [Op.equalIn]
  simp only [aPure_bind, aPure_und hu, aPure_prog, Option.bind_some, hs]
  have p0 : ∀ x : Vl, aPure P (part t0 #[.int .i64 x.k, .int .i64 x.n, .float .f64 x.x, .string x.s, .bool x.b] 0) = some (.int .i64 x.k) := fun x => aPure_part u0 rfl
  have p1 : ∀ x : Vl, aPure P (part t1 #[.int .i64 x.k, .int .i64 x.n, .float .f64 x.x, .string x.s, .bool x.b] 1) = some (.int .i64 x.n) := fun x => aPure_part u1 rfl
  have p2 : ∀ x : Vl, aPure P (part t2 #[.int .i64 x.k, .int .i64 x.n, .float .f64 x.x, .string x.s, .bool x.b] 2) = some (.float .f64 x.x) := fun x => aPure_partF u2 rfl
  have p3 : ∀ x : Vl, aPure P (part t3 #[.int .i64 x.k, .int .i64 x.n, .float .f64 x.x, .string x.s, .bool x.b] 3) = some (.string x.s) := fun x => aPure_partS u3 rfl
  have p4 : ∀ x : Vl, aPure P (part t4 #[.int .i64 x.k, .int .i64 x.n, .float .f64 x.x, .string x.s, .bool x.b] 4) = some (.bool x.b) := fun x => aPure_partB u4 rfl
  have q0 := fun x y => aPure_eqInt u0 d x y
  have q1 := fun x y => aPure_eqInt u1 d x y
  have q2 := fun x y => aPure_eqFlt u2 d x y
  have q3 := fun x y => aPure_eqStr u3 d x y
  have q4 := fun x y => aPure_eqBool u4 d x y
  unfold eqVl
  cases c0 : (v.k == w.k)
  · simp [n0, y0, o0, aPure_bind, aPure_pure, p0, q0, c0]
  cases c1 : (v.n == w.n)
  · simp [n0, y0, o0, n1, y1, o1, aPure_bind, aPure_pure, p0, q0, c0, p1, q1, c1]
  cases c2 : (Op.floatEq .f64 v.x w.x)
  · simp [n0, y0, o0, n1, y1, o1, n2, y2, o2, aPure_bind, aPure_pure, p0, q0, c0, p1, q1, c1, p2, q2, c2]
  cases c3 : (v.s == w.s)
  · simp [n0, y0, o0, n1, y1, o1, n2, y2, o2, n3, y3, o3, aPure_bind, aPure_pure, p0, q0, c0, p1, q1, c1, p2, q2, c2, p3, q3, c3]
  cases c4 : (v.b == w.b)
  · simp [n0, y0, o0, n1, y1, o1, n2, y2, o2, n3, y3, o3, n4, y4, o4, aPure_bind, aPure_pure, p0, q0, c0, p1, q1, c1, p2, q2, c2, p3, q3, c3, p4, q4, c4]
  · simp [n0, y0, o0, n1, y1, o1, n2, y2, o2, n3, y3, o3, n4, y4, o4, aPure_bind, aPure_pure, p0, q0, c0, p1, q1, c1, p2, q2, c2, p3, q3, c3, p4, q4, c4]
theorem aBin_eqlV {P : Program} {t : TypeId} (h : ∀ v w, aPure P (Op.equal t (vlV v) (vlV w)) = some (eqVl v w)) (hg : P.eqGuardType P.depth t = false) (x y : Operand) (v w : Vl) : aBin P .eql t x y (.agg (vlC v)) (.agg (vlC w)) = some (.bool (eqVl v w)) := by
  have gd : aPure P (eqGuard .eql t x y (vlV v) (vlV w)) = some () := by
    simp only [vlV, eqGuard, Bool.not_true, Bool.false_eq_true, if_false, aPure_bind, aPure_prog, Option.bind_some, hg]
    rfl
  have bn : aPure P (binOp .eql t (vlV v) (vlV w)) = some (.bool (eqVl v w)) := by
    show aPure P (Op.equal t (vlV v) (vlV w) >>= fun r => pure (Value.bool r)) = _
    rw [aPure_bind, h v w]
    rfl
  have v1 : ∀ v : Vl, (AVal.agg (vlC v)).toV = some (vlV v) := fun v => rfl
  simp only [aBin, v1, aPure_bind, gd, bn, Option.bind_some]
  rfl
theorem bytesBeq (a b : ByteArray) : (a == b) = (a.toList == b.toList) := by
  rw [Bool.eq_iff_iff, Go.MapKept.bytes_beq, beq_iff_eq, ByteArray.toList_eq, ByteArray.toList_eq]
  exact ⟨fun h => by rw [h], fun h => Go.WideShapes.bytes_inj h⟩
theorem eqVl_eq (v w : Vl) : eqVl v w = (v.k == w.k && (v.n == w.n && (ford v.x w.x == some .eq && (v.s.toList == w.s.toList && v.b == w.b)))) := by
  unfold eqVl
  rw [bytesBeq]
  rfl
end Go.Proofs.Ytbolfamaffbnnaa

/-! When values are the same, and right. -/
namespace Go.Proofs.Ytbolfamaffbnnaa
open Go.Ab

section
variable {X : XTab}

def sameV (v w : Vl) : Bool := v.k == w.k && v.n == w.n && v.s.toList == w.s.toList && v.b == w.b && bitsF v.x == bitsF w.x

theorem sameV_self (v : Vl) : sameV v v = true := by simp [sameV]

def vl0 : Vl := ⟨0, 0, 0, bs [], false⟩

def x0B (v : Vl) : Bool := ford v.x 0 == some .eq

def s0B (v : Vl) : Bool := v.s.toList == (bs []).toList

def rightV (v : Vl) : Bool := if v.k = 1 then x0B v && (s0B v && !v.b) else if v.k = 2 then v.n == 0 && (s0B v && !v.b) else if v.k = 3 then v.n == 0 && (x0B v && (!v.b && decide (v.s.size ≤ 12))) else if v.k = 4 then v.n == 0 && (x0B v && s0B v) else false

theorem s0_size {v : Vl} (h : s0B v = true) : v.s.size = 0 := by
  have : v.s.toList = (bs []).toList := by simpa [s0B] using h
  rw [ByteArray.toList_eq, ByteArray.toList_eq] at this
  have := Go.WideShapes.bytes_inj this
  rw [this]; rfl

theorem eq35 : ∀ v w : Vl, aPure Try.prog (Op.equal 35 (vlV v) (vlV w)) = some (eqVl v w) := fun v w =>
  aPure_eq5 (t0 := 3) (t1 := 2) (t2 := 33) (t3 := 9) (t4 := 4) Try.underlying35 ⟨by decide, rfl, rfl⟩ ⟨by decide, rfl, rfl⟩ ⟨by decide, rfl, rfl⟩ ⟨by decide, rfl, rfl⟩ ⟨by decide, rfl, rfl⟩ Try.underlying3 Try.underlying2 Try.underlying33 Try.underlying9 Try.underlying4 (by kernel_rfl) 9998 v w

theorem guard35 : Try.prog.eqGuardType Try.prog.depth 35 = false := by kernel_rfl

theorem zero35 (x y : Operand) (n : Int) (f : Nat) (s : ByteArray) (b : Bool) : aBin Try.prog .eql 35 x y (.agg [I 0, I n, .flt .f64 f, .str s, .bool b]) (.agg [I 0, I 0, .flt .f64 0, .str (bs []), .bool false]) = some (.bool (n == 0 && (ford f 0 == some .eq && (s.toList == (bs []).toList && !b)))) := by
  have := aBin_eqlV eq35 guard35 x y ⟨0, n, f, s, b⟩ vl0
  rw [eqVl_eq] at this
  simpa [vlC, vl0] using this

end
end Go.Proofs.Ytbolfamaffbnnaa

/-! What float.Bits and precentorref1.Bits tell. -/
namespace Go.Proofs.Ytbolfamaffbnnaa
open Go.Ab

section
variable {X : XTab}

theorem IsNaN_ (hX : OnlyKnown X) (x : Nat) (h : Heap) : Tells (fun q => acallX Try.prog X q F_math_IsNaN [.flt .f64 x] h) fun r h' => r = .bool (ford x x != some .eq) ∧ h' = h := by
  refine R_math_IsNaN _ (hX _ _ rfl) ?_
  unfold S_math_IsNaN
  try simp
  exact Tells.ok ⟨rfl, rfl⟩

theorem float_Bits (hX : OnlyKnown X) (x : Nat) (h : Heap) : Tells (fun q => acallX Try.prog X q F_float_Bits [.flt .f64 x] h) fun r h' => r = .int .u64 (bitsF x) ∧ h' = h := by
  refine R_float_Bits _ (hX _ _ rfl) ?_
  refine Tells.prot fun Q' hQ => ?_
  unfold S_float_Bits
  try simp
  refine Tells.bind (IsNaN_ hX x h) ?_
  rintro _ h ⟨rfl, rfl⟩
  cases h1 : (ford x x != some .eq) with
  | true =>
    try simp
    exact Tells.ok (hQ _ _ ⟨by simp [bitsF, h1], rfl⟩)
  | false =>
    cases h2 : (ford x 0 == some .eq) with
    | true =>
      simp [J_float_Bits_0, h2]
      exact Tells.ok (hQ _ _ ⟨by simp [bitsF, h1, h2], rfl⟩)
    | false =>
      simp [J_float_Bits_0, h2, J_float_Bits_1, nat_bits]
      exact Tells.ok (hQ _ _ ⟨by simp [bitsF, h1, h2], rfl⟩)

theorem float_Same (hX : OnlyKnown X) (x y : Nat) (h : Heap) : Tells (fun q => acallX Try.prog X q F_float_Same [.flt .f64 x, .flt .f64 y] h) fun r h' => r = .bool (bitsF x == bitsF y) ∧ h' = h := by
  refine R_float_Same _ _ (hX _ _ rfl) ?_
  refine Tells.prot fun Q' hQ => ?_
  unfold S_float_Same
  try simp
  refine Tells.bind (float_Bits hX x h) ?_
  rintro _ h ⟨rfl, rfl⟩
  try simp
  refine Tells.bind (float_Bits hX y h) ?_
  rintro _ h ⟨rfl, rfl⟩
  try simp
  exact Tells.ok (hQ _ _ ⟨rfl, rfl⟩)

theorem ref_Bits (hX : OnlyKnown X) (x : Nat) (h : Heap) : Tells (fun q => acallX Try.prog X q F_precentorref1_Bits [.flt .f64 x] h) fun r h' => r = .int .u64 (bitsF x) ∧ h' = h := by
  refine R_precentorref1_Bits _ (hX _ _ rfl) ?_
  refine Tells.prot fun Q' hQ => ?_
  unfold S_precentorref1_Bits
  cases h1 : (ford x x != some .eq) with
  | true =>
    simp [h1]
    exact Tells.ok (hQ _ _ ⟨by simp [bitsF, h1], rfl⟩)
  | false =>
    cases h2 : (ford x 0 == some .eq) with
    | true =>
      simp [h1, J_precentorref1_Bits_0, h2]
      exact Tells.ok (hQ _ _ ⟨by simp [bitsF, h1, h2], rfl⟩)
    | false =>
      simp [h1, J_precentorref1_Bits_0, h2, J_precentorref1_Bits_1, nat_bits]
      exact Tells.ok (hQ _ _ ⟨by simp [bitsF, h1, h2], rfl⟩)

end
end Go.Proofs.Ytbolfamaffbnnaa

/-! What value.Same, value.Right and the document's own tell. -/
namespace Go.Proofs.Ytbolfamaffbnnaa
open Go.Ab

section
variable {X : XTab}

theorem value_Same (hX : OnlyKnown X) (v w : Vl) (h : Heap) : Tells (fun q => acallX Try.prog X q F_value_Same [.agg (vlC v), .agg (vlC w)] h) fun r h' => r = .bool (sameV v w) ∧ Ext [] h h' := by
  refine R_value_Same _ _ (hX _ _ rfl) ?_
  refine Tells.prot fun Q' hQ => ?_
  have u4 := Try.underlying4
  unfold S_value_Same
  try simp
  refine Tells.box rfl rfl fun h1 ba oa x1 l1 => ?_
  try simp
  refine Tells.box rfl rfl fun h2 bb ob x2 l2 => ?_
  have oa2 := oa.e x2
  have x := x1.trans x2
  by_cases c1 : v.k = w.k
  · have c1' : (v.k == w.k) = true := by simp [c1]
    by_cases c2 : v.n = w.n
    · have c2' : (v.n == w.n) = true := by simp [c2]
      cases c3 : (v.s.toList == w.s.toList) with
      | true =>
        by_cases c4 : v.b = w.b
        · have c4' : (v.b == w.b) = true := by simp [c4]
          simp [oa2.1, ob.1, vlC, c1, c2, c3, c4, u4]
          refine Tells.bind (float_Same hX v.x w.x h2) ?_
          rintro _ h3 ⟨rfl, rfl⟩
          try simp
          exact Tells.ok (hQ _ _ ⟨by simp [sameV, c1', c2', c3, c4'], x⟩)
        · have c4' : (v.b == w.b) = false := beq_eq_false_iff_ne.2 c4
          simp [oa2.1, ob.1, vlC, c1, c2, c3, c4', u4]
          exact Tells.ok (hQ _ _ ⟨by simp [sameV, c1', c2', c3, c4'], x⟩)
      | false =>
        simp [oa2.1, ob.1, vlC, c1, c2, c3]
        exact Tells.ok (hQ _ _ ⟨by simp [sameV, c1', c2', c3], x⟩)
    · have c2' : (v.n == w.n) = false := beq_eq_false_iff_ne.2 c2
      simp [oa2.1, ob.1, vlC, c1, c2']
      exact Tells.ok (hQ _ _ ⟨by simp [sameV, c1', c2'], x⟩)
  · have c1' : (v.k == w.k) = false := beq_eq_false_iff_ne.2 c1
    simp [oa2.1, ob.1, vlC, c1']
    exact Tells.ok (hQ _ _ ⟨by simp [sameV, c1'], x⟩)

theorem ref_SameValue (hX : OnlyKnown X) (v w : Vl) (h : Heap) : Tells (fun q => acallX Try.prog X q F_precentorref1_SameValue [.agg (vlC v), .agg (vlC w)] h) fun r h' => r = .bool (sameV v w) ∧ Ext [] h h' := by
  refine R_precentorref1_SameValue _ _ (hX _ _ rfl) ?_
  refine Tells.prot fun Q' hQ => ?_
  have u4 := Try.underlying4
  unfold S_precentorref1_SameValue
  try simp
  refine Tells.box rfl rfl fun h1 ba oa x1 l1 => ?_
  try simp
  refine Tells.box rfl rfl fun h2 bb ob x2 l2 => ?_
  have oa2 := oa.e x2
  have x := x1.trans x2
  by_cases c1 : v.k = w.k
  · have c1' : (v.k == w.k) = true := by simp [c1]
    by_cases c2 : v.n = w.n
    · have c2' : (v.n == w.n) = true := by simp [c2]
      simp [oa2.1, ob.1, vlC, c1, c2]
      refine Tells.cbE (ref_Bits hX v.x h2) ?_
      rintro _ h2 ⟨rfl, rfl⟩
      simp [oa2.1, ob.1, vlC]
      refine Tells.cbE (ref_Bits hX w.x h2) ?_
      rintro _ h2 ⟨rfl, rfl⟩
      by_cases c5 : bitsF v.x = bitsF w.x
      · have c5' : (bitsF v.x == bitsF w.x) = true := by simp [c5]
        cases c3 : (v.s.toList == w.s.toList) with
        | true =>
          by_cases c4 : v.b = w.b
          · have c4' : (v.b == w.b) = true := by simp [c4]
            simp [oa2.1, ob.1, vlC, c5, c3, c4, u4]
            exact Tells.ok (hQ _ _ ⟨by simp [sameV, c1', c2', c3, c4', c5'], x⟩)
          · have c4' : (v.b == w.b) = false := beq_eq_false_iff_ne.2 c4
            simp [oa2.1, ob.1, vlC, c5, c3, c4', u4]
            exact Tells.ok (hQ _ _ ⟨by simp [sameV, c1', c2', c3, c4', c5'], x⟩)
        | false =>
          simp [oa2.1, ob.1, vlC, c5, c3]
          exact Tells.ok (hQ _ _ ⟨by simp [sameV, c1', c2', c3], x⟩)
      · have c5' : (bitsF v.x == bitsF w.x) = false := beq_eq_false_iff_ne.2 c5
        simp [oa2.1, ob.1, vlC, c5']
        exact Tells.ok (hQ _ _ ⟨by simp [sameV, c1', c2', c5'], x⟩)
    · have c2' : (v.n == w.n) = false := beq_eq_false_iff_ne.2 c2
      simp [oa2.1, ob.1, vlC, c1, c2']
      exact Tells.ok (hQ _ _ ⟨by simp [sameV, c1', c2'], x⟩)
  · have c1' : (v.k == w.k) = false := beq_eq_false_iff_ne.2 c1
    simp [oa2.1, ob.1, vlC, c1']
    exact Tells.ok (hQ _ _ ⟨by simp [sameV, c1'], x⟩)

theorem value_RightG (hX : OnlyKnown X) (v : Vl) (h : Heap) : Tells (fun q => acallX Try.prog X q F_value_Right [.agg (vlC v)] h) fun r h' => r = .bool (rightV v) ∧ Ext [] h h' := by
  refine R_value_Right _ (hX _ _ rfl) ?_
  refine Tells.prot fun Q' hQ => ?_
  unfold S_value_Right
  try simp
  refine Tells.box rfl rfl fun h1 bv ov x1 l1 => ?_
  try simp
  have ov : Ob h1 bv (vlC v) := ov
  simp [ov.1, vlC]
  refine Tells.newSt (ds := vlC v) (by rfl) (by rfl) (by rfl) (by rfl) fun h2 br or x2 l2 => ?_
  have ov2 := ov.e x2
  try simp
  refine Tells.st1 or (by rfl) (by rfl) (by simp [vlC]) fun h3 or3 x3 => ?_
  have hne : bv ≠ br := by have := ov.lt; omega
  have ov3 := ov2.ext x3 (by simpa using hne)
  have x03 : Ext [] h h3 := (x1.trans x2).then x3 fun z hz => .inr (by have := x1.next; simp at hz; omega)
  have fin : ∀ (g : Heap) (t : T) (n : Int) (f : Nat) (s : ByteArray) (b : Bool), t 1 = .ptr bv 0 → t 3 = .ptr br 0 → Ob g bv (vlC v) → Ob g br [I 0, I n, .flt .f64 f, .str s, .bool b] → Ext [] h g → rightV v = ((n == 0 && (ford f 0 == some .eq && (s.toList == (bs []).toList && !b))) && decide (v.s.size ≤ 12)) →
      Tells (fun m => J_value_Right_0 Try.prog (acallX Try.prog X m) m (retK Try.prog [.tmp 2]) t g) Q' := by
    intro g t n f s b t1 t3 og rg xg hr
    cases hE : (n == 0 && (ford f 0 == some .eq && (s.toList == (bs []).toList && !b))) with
    | false =>
      simp [J_value_Right_0, t1, t3, rg.1, bldR, fillR, zero35, hE]
      exact Tells.ok (hQ _ _ ⟨by rw [hr, hE]; rfl, xg⟩)
    | true =>
      simp [J_value_Right_0, t1, t3, rg.1, bldR, fillR, zero35, hE, og.1, lenS, vlC]
      exact Tells.ok (hQ _ _ ⟨by rw [hr, hE]; simp; omega, xg⟩)
  have xs : ∀ {g : Heap}, Ext [br] h3 g → Ext [] h g := fun {g} e => x03.then e fun z hz => .inr (by have := x1.next; simp at hz; omega)
  have f00 : (ford 0 0 == some .eq) = true := by decide +kernel
  have hs : (v.s.toList == (bs []).toList) = s0B v := rfl
  have hx : (ford v.x 0 == some .eq) = x0B v := rfl
  by_cases k1 : v.k = 1
  · simp [ov3.1, vlC, k1]
    refine Tells.st1 or3 (by rfl) (by rfl) (by simp [vlC]) fun h4 or4 x4 => ?_
    have ov4 := ov3.ext x4 (by simpa using hne)
    try simp
    refine fin h4 _ 0 v.x v.s v.b (by simp) (by simp) ov4 or4 (xs x4) ?_
    unfold rightV
    rw [if_pos k1, hx, hs]
    cases h : s0B v
    · simp
    · simp [s0_size h]
  have b1 : (v.k == 1) = false := beq_eq_false_iff_ne.2 k1
  by_cases k2 : v.k = 2
  · simp [ov3.1, vlC, k2]
    refine Tells.st1 or3 (by rfl) (by rfl) (by simp [vlC]) fun h4 or4 x4 => ?_
    have ov4 := ov3.ext x4 (by simpa using hne)
    try simp
    refine fin h4 _ v.n 0 v.s v.b (by simp) (by simp) ov4 or4 (xs x4) ?_
    unfold rightV
    rw [if_neg k1, if_pos k2, f00, hs]
    cases h : s0B v
    · simp
    · simp [s0_size h]
  have b2 : (v.k == 2) = false := beq_eq_false_iff_ne.2 k2
  by_cases k3 : v.k = 3
  · simp [ov3.1, vlC, k3]
    refine Tells.st1 or3 (by rfl) (by rfl) (by simp [vlC]) fun h4 or4 x4 => ?_
    have ov4 := ov3.ext x4 (by simpa using hne)
    try simp
    refine fin h4 _ v.n v.x (bs []) v.b (by simp) (by simp) ov4 or4 (xs x4) ?_
    unfold rightV
    rw [if_neg k1, if_neg k2, if_pos k3, hx]
    simp [Bool.and_assoc]
  have b3 : (v.k == 3) = false := beq_eq_false_iff_ne.2 k3
  by_cases k4 : v.k = 4
  · simp [ov3.1, vlC, k4]
    refine Tells.st1 or3 (by rfl) (by rfl) (by simp [vlC]) fun h4 or4 x4 => ?_
    have ov4 := ov3.ext x4 (by simpa using hne)
    try simp
    refine fin h4 _ v.n v.x v.s false (by simp) (by simp) ov4 or4 (xs x4) ?_
    unfold rightV
    rw [if_neg k1, if_neg k2, if_neg k3, if_pos k4, hx, hs]
    cases h : s0B v
    · simp
    · simp [s0_size h]
  have b4 : (v.k == 4) = false := beq_eq_false_iff_ne.2 k4
  simp [ov3.1, vlC, b1, b2, b3, b4]
  exact Tells.ok (hQ _ _ ⟨by unfold rightV; rw [if_neg k1, if_neg k2, if_neg k3, if_neg k4], x03⟩)

theorem ref_RightValue (hX : OnlyKnown X) (v : Vl) (h : Heap) : Tells (fun q => acallX Try.prog X q F_precentorref1_RightValue [.agg (vlC v)] h) fun r h' => r = .bool (rightV v) ∧ Ext [] h h' := by
  refine R_precentorref1_RightValue _ (hX _ _ rfl) ?_
  refine Tells.prot fun Q' hQ => ?_
  have u4 := Try.underlying4
  unfold S_precentorref1_RightValue
  try simp
  refine Tells.box rfl rfl fun h1 bv ov x1 l1 => ?_
  try simp
  have ov : Ob h1 bv (vlC v) := ov
  have hs : (v.s.toList == (bs []).toList) = s0B v := rfl
  have hx : (ford v.x 0 == some .eq) = x0B v := rfl
  unfold rightV at hQ
  by_cases k1 : v.k = 1
  · rw [if_pos k1] at hQ
    simp only [ov.1, vlC, List.getElem?_cons_zero, List.getElem?_cons_succ]
    cases c1 : x0B v <;> cases c2 : s0B v <;> cases c3 : v.b <;> simp [ov.1, vlC, k1, hs, hx, c1, c2, c3] <;> exact Tells.ok (hQ _ _ ⟨by simp [c1, c2, c3], x1⟩)
  rw [if_neg k1] at hQ
  have b1 : (v.k == 1) = false := beq_eq_false_iff_ne.2 k1
  by_cases k2 : v.k = 2
  · rw [if_pos k2] at hQ
    cases c1 : (v.n == 0) <;> cases c2 : s0B v <;> cases c3 : v.b <;> simp [ov.1, vlC, k2, hs, hx, c1, c2, c3] <;> exact Tells.ok (hQ _ _ ⟨by simp [c1, c2, c3], x1⟩)
  rw [if_neg k2] at hQ
  have b2 : (v.k == 2) = false := beq_eq_false_iff_ne.2 k2
  by_cases k3 : v.k = 3
  · rw [if_pos k3] at hQ
    cases c1 : (v.n == 0) <;> cases c2 : x0B v <;> cases c3 : v.b <;> simp [ov.1, vlC, k3, hs, hx, c1, c2, c3, lenS] <;> exact Tells.ok (hQ _ _ ⟨by simp [c1, c2, c3] <;> omega, x1⟩)
  rw [if_neg k3] at hQ
  have b3 : (v.k == 3) = false := beq_eq_false_iff_ne.2 k3
  by_cases k4 : v.k = 4
  · rw [if_pos k4] at hQ
    cases c1 : (v.n == 0) <;> cases c2 : x0B v <;> cases c3 : s0B v <;> simp [ov.1, vlC, k4, hs, hx, c1, c2, c3] <;> exact Tells.ok (hQ _ _ ⟨by simp [c1, c2, c3], x1⟩)
  rw [if_neg k4] at hQ
  have b4 : (v.k == 4) = false := beq_eq_false_iff_ne.2 k4
  simp [ov.1, vlC, b1, b2, b3, b4, J_precentorref1_RightValue_0]
  exact Tells.ok (hQ _ _ ⟨rfl, x1⟩)

end
end Go.Proofs.Ytbolfamaffbnnaa

/-! Attributes: the same; Copy (printed by mk22.py). -/
namespace Go.Proofs.Ytbolfamaffbnnaa
open Go.Ab

section
variable {X : XTab}

def getA (l : List Att) (nm : ByteArray) : Option Att := l.find? fun a => a.1.toList == nm.toList

def sameA : List Att → List Att → Bool
  | [], [] => true
  | a :: l, b :: m => (a.1.toList == b.1.toList && sameV a.2 b.2) && sameA l m
  | _, _ => false

theorem sameA_self : ∀ l : List Att, sameA l l = true
  | [] => rfl
  | a :: l => by simp [sameA, sameV_self, sameA_self l]

theorem sameA_len : ∀ {l m : List Att}, l.length ≠ m.length → sameA l m = false
  | [], [], h => absurd rfl h
  | a :: l, b :: m, h => by simp only [sameA, sameA_len (l := l) (m := m) (by simpa using h), Bool.and_false]
  | [], _ :: _, _ => rfl
  | _ :: _, [], _ => rfl

theorem sameA_drop {l m : List Att} {i : Nat} {a b : Att} (h1 : l[i]? = some a) (h2 : m[i]? = some b) : sameA (l.drop i) (m.drop i) = ((a.1.toList == b.1.toList && sameV a.2 b.2) && sameA (l.drop (i + 1)) (m.drop (i + 1))) := by
  have a1 := List.getElem?_eq_some_iff.1 h1
  have a2 := List.getElem?_eq_some_iff.1 h2
  rw [List.drop_eq_getElem_cons a1.1, List.drop_eq_getElem_cons a2.1, a1.2, a2.2]
  rfl

theorem att_at {h : Heap} {v : AVal} {ats : List Att} (o : Sl attrR h v ats) {i : Nat} {a : Att} (hx : ats[i]? = some a) :
    ∃ b p B, ixsR 6 v (.int .i64 (i : Int)) = some (.ptr b p) ∧ h.get b = some B ∧ p + 6 ≤ B.length ∧ (B.drop p).take 6 = attC a ∧ B[p]? = some (.str a.1) ∧ p + 1 + 5 ≤ B.length ∧ (B.drop (p + 1)).take 5 = vlC a.2 := by
  obtain ⟨b, p, B, c, q1, e, r⟩ := o.at (n := 6) rfl (i := (i : Int)) (by omega) (by simpa using hx)
  have r : c = attC a := r
  subst r
  have l := e.le
  have s := e.sub 1 5 (by simp [attC, vlC])
  have sl := s.le
  have se := s.eq
  have e0 := e.eq
  simp only [attC, vlC, List.length_cons, List.length_nil] at l sl e0
  exact ⟨b, p, B, q1, e.get, by omega, e0, e.cell0 (by simp [attC]), by omega, se⟩

theorem ref_SameAttrs (hX : OnlyKnown X) {h : Heap} {v u : AVal} {l m : List Att} (o : Sl attrR h v l) (p : Sl attrR h u m) (hl : l.length < 2 ^ 60) (hm : m.length < 2 ^ 60) :
    Tells (fun q => acallX Try.prog X q F_precentorref1_SameAttrs [v, u] h) fun r h' => r = .bool (sameA l m) ∧ Ext [] h h' := by
  refine R_precentorref1_SameAttrs _ _ (hX _ _ rfl) ?_
  refine Tells.prot fun Q' hQ => ?_
  unfold S_precentorref1_SameAttrs
  by_cases hlen : l.length = m.length
  · have hb : ((l.length : Int) != m.length) = false := by simp [hlen]
    simp [o.len, p.len, hb, J_precentorref1_SameAttrs_0]
    refine Tells.bind (Tells.loop (fun n t g => ∃ i : Nat, t 0 = v ∧ t 1 = u ∧ t 5 = I i ∧ i + n = l.length ∧ Ext [] h g ∧ sameA l m = sameA (l.drop i) (m.drop i))
      (Q := fun p g => Ext [] h g ∧ ((p.1 = .exit 0 ∧ sameA l m = true) ∨ (p.1 = .ret ∧ p.2 4 = .bool false ∧ sameA l m = false))) ?_ l.length _ _ ?_) ?_
    · rintro n t g ⟨i, t0, t1, t5, hi, x, hs⟩
      refine Tells.prot fun Q2 hQ2 => ?_
      unfold L_precentorref1_SameAttrs_2
      simp [t0, t5, (o.ext x).len]
      refine Tells.cb (fun hc => ?_) (fun hc => ?_)
      · simp at hc
        obtain ⟨a, ha⟩ : ∃ a, l[i]? = some a := ⟨_, List.getElem?_eq_getElem hc⟩
        obtain ⟨b, hb⟩ : ∃ b, m[i]? = some b := ⟨_, List.getElem?_eq_getElem (by omega)⟩
        obtain ⟨b1, p1, B1, q1, q2, q3, q4, q5, q6, q7⟩ := att_at (o.ext x) ha
        obtain ⟨b2, p2, B2, r1, r2, r3, r4, r5, r6, r7⟩ := att_at (p.ext x) hb
        have w : IntKind.i64.wrap ((i : Int) + 1) = i + 1 := wrap_id (by omega) (by omega)
        rw [sameA_drop ha hb] at hs
        cases c : (a.1.toList == b.1.toList) with
        | false =>
          simp [J_precentorref1_SameAttrs_3, t0, t1, t5, q1, q2, q5, r1, r2, r5, c]
          exact Tells.ok (hQ2 _ _ (.inr ⟨by simp, x, .inr ⟨rfl, by simp, by rw [hs, c]; rfl⟩⟩))
        | true =>
          simp [J_precentorref1_SameAttrs_3, t0, t1, t5, q1, q2, q5, q6, q7, r1, r2, r5, r6, r7, c]
          refine Tells.cbE (ref_SameValue hX a.2 b.2 g) ?_
          rintro _ g2 ⟨rfl, x2⟩
          cases c2 : sameV a.2 b.2 with
          | false =>
            try simp
            exact Tells.ok (hQ2 _ _ (.inr ⟨by simp, x.trans x2, .inr ⟨rfl, by simp, by rw [hs, c, c2]; rfl⟩⟩))
          | true =>
            simp [J_precentorref1_SameAttrs_4, t5, w]
            exact Tells.ok (hQ2 _ _ (.inl ⟨rfl, n - 1, by omega, i + 1, by simp [t0], by simp [t1], by simp, by omega, x.trans x2, by rw [hs, c, c2]; rfl⟩))
      · simp at hc
        refine Tells.ok (hQ2 _ _ (.inr ⟨by simp, x, .inl ⟨rfl, ?_⟩⟩))
        rw [hs, List.drop_eq_nil_of_le (by omega), List.drop_eq_nil_of_le (by omega)]
        rfl
    · exact ⟨0, by simp, by simp, by simp, by omega, .refl, rfl⟩
    · rintro ⟨ex, t⟩ g ⟨x, ⟨rfl, hs⟩ | ⟨rfl, t4, hs⟩⟩
      · simp [J_precentorref1_SameAttrs_1]
        exact Tells.ok (hQ _ _ ⟨by rw [hs], x⟩)
      · simp only at t4
        simp [t4]
        exact Tells.ok (hQ _ _ ⟨by rw [hs], x⟩)
  · have hb : ((l.length : Int) != m.length) = true := by simp; omega
    simp [o.len, p.len, hb]
    exact Tells.ok (hQ _ _ ⟨by rw [sameA_len hlen], .refl⟩)

theorem attr_Copy (hX : OnlyKnown X) {h : Heap} {v : AVal} {l : List Att} (o : Sl attrR h v l) (hl : l.length ≤ 100) :
    Tells (fun q => acallX Try.prog X q F_attr_Copy [v] h) fun r h' => Gl attrR h h' r l ∧ Ext [] h h' ∧ Wr h h' r := by
  refine R_attr_Copy _ (hX _ _ rfl) ?_
  refine Tells.prot fun Q' hQ => ?_
  unfold S_attr_Copy
  try simp
  refine Tells.copy o (by rfl) (by omega) (by decide) fun s h1 g1 x1 w1 => ?_
  try simp
  exact Tells.ok (hQ _ _ ⟨g1, x1, w1⟩)

end
end Go.Proofs.Ytbolfamaffbnnaa

/-! The package's closed example; pointers beside nil. -/
namespace Go.Proofs.Ytbolfamaffbnnaa
open Go.Ab

theorem known_X {X : XTab} {F : FuncId} (hk : X F [] = some (.bool true)) (h : Heap) : Tells (fun m => acallX Try.prog X m F [] h) fun a h' => a = .bool true ∧ h' = h :=
  ⟨.bool true, h, ⟨rfl, rfl⟩, 1, fun m hm => by
    obtain ⟨k, rfl⟩ : ∃ k, m = k + 1 := ⟨m - 1, by omega⟩
    simp only [acallX, hk]⟩
theorem ptr_nil {t e : TypeId} (hu : Try.prog.underlying t = some (.pointer e)) (o1 o2 : Operand) (b p : Nat) : aBin Try.prog .eql t o1 o2 (.ptr b p) .nilp = some (.bool false) := by
  simp only [aBin, AVal.toV, aNilCmp, hu, nilRes]
theorem ptr_nil' {t e : TypeId} (hu : Try.prog.underlying t = some (.pointer e)) (o1 o2 : Operand) (b p : Nat) : aBin Try.prog .neq t o1 o2 (.ptr b p) .nilp = some (.bool true) := by
  simp only [aBin, AVal.toV, aNilCmp, hu, nilRes]
end Go.Proofs.Ytbolfamaffbnnaa

/-! desk: its form; seat, New, Attach, clone, Hear, Poll, Log. -/
namespace Go.Proofs.Ytbolfamaffbnnaa
open Go.Ab

/-- A client's seat, as its cells. -/
structure Seat where
  here : Bool
  vsub : AVal
  given : Int
  busy : Bool
  gone : Bool
  num : Int
  vlog : AVal
  read : Int
def seatC (s : Seat) : List AVal := [.bool s.here, s.vsub, I s.given, .bool s.busy, .bool s.gone, I s.num, s.vlog, I s.read]
def seat0 : Seat := ⟨false, .nils, 0, false, false, 0, .nils, 0⟩
def deskC (br : Int) (ss : List Seat) : List AVal := I br :: (ss.map seatC).flatten
theorem seat_len : ∀ {ss : List Seat}, ∀ c, c ∈ ss.map seatC → c.length = 8 := fun c hc => by
  obtain ⟨s, _, rfl⟩ := List.mem_map.1 hc
  rfl
theorem deskC_at {br : Int} {ss : List Seat} {c k : Nat} {s : Seat} (hc : ss[c]? = some s) (hk : k < 8) : (deskC br ss)[1 + c * 8 + k]? = (seatC s)[k]? := by
  have h := flat_at (n := 8) (css := ss.map seatC) seat_len (i := c) (c := seatC s) (by simp [hc])
  have e : (deskC br ss)[1 + c * 8 + k]? = ((ss.map seatC).flatten)[c * 8 + k]? := by
    rw [show 1 + c * 8 + k = (c * 8 + k) + 1 by omega]
    rfl
  rw [e, ← h, List.getElem?_take, if_pos hk, List.getElem?_drop]
theorem deskC_len {br : Int} {ss : List Seat} : (deskC br ss).length = 1 + ss.length * 8 := by
  have := flat_len (n := 8) (css := ss.map seatC) seat_len
  simp only [deskC, List.length_cons, this, List.length_map]
  omega
theorem deskC_set {br : Int} {ss : List Seat} {c k : Nat} {s s' : Seat} {v : AVal} (hc : ss[c]? = some s) (hk : k < 8) (h : (seatC s).set k v = seatC s') : (deskC br ss).set (1 + c * 8 + k) v = deskC br (ss.set c s') := by
  have e := flat_set (n := 8) (css := ss.map seatC) seat_len (i := c) (k := k) (c := seatC s) (x := v) (by simp [hc]) hk
  rw [h] at e
  rw [show 1 + c * 8 + k = (c * 8 + k) + 1 by omega]
  simp only [deskC, List.set_cons_succ]
  rw [← e, List.map_set]

/-- What is heard: from whom, number, epoch, attributes. -/
structure Sn where
  f : Int
  s : Int
  e : Int
  ats : List Att
def snC (x : Sn) (va : AVal) : List AVal := [I x.f, I x.s, I x.e, va]
def snR : Rp Sn := ⟨4, by decide, fun h cs x => ∃ va, cs = snC x va ∧ Sl attrR h va x.ats, fun ⟨_, h, _⟩ => by rw [h]; rfl, fun ⟨_, h, a⟩ => by rw [h]; simp [snC, a.one], fun ⟨va, h, a⟩ e => ⟨va, h, a.ext e⟩⟩
def sn0 : Sn := ⟨0, 0, 0, []⟩
theorem sn_at {h : Heap} {v : AVal} {xs : List Sn} (o : Sl snR h v xs) {i : Nat} {x : Sn} (hx : xs[i]? = some x) :
    ∃ b p B va, ixsR 4 v (.int .i64 (i : Int)) = some (.ptr b p) ∧ h.get b = some B ∧ p + 4 ≤ B.length ∧ (B.drop p).take 4 = snC x va ∧ Sl attrR h va x.ats ∧ B[p + 1]? = some (I x.s) := by
  obtain ⟨b, p, B, c, q1, e, va, rfl, oa⟩ := o.at (n := 4) rfl (i := (i : Int)) (by omega) (by simpa using hx)
  have l := e.le
  have e0 := e.eq
  simp only [snC, List.length_cons, List.length_nil] at l e0
  exact ⟨b, p, B, va, q1, e.get, by omega, e0, oa, e.cell (k := 1) (by simp [snC])⟩

section
variable {X : XTab}
theorem desk_seat (hX : OnlyKnown X) {h : Heap} {b : Nat} {br : Int} {ss : List Seat} (o : Ob h b (deskC br ss)) (hl : ss.length = 7) {c : Nat} {s : Seat} (h1 : 1 ≤ c) (hc : ss[c]? = some s) :
    Tells (fun q => acallX Try.prog X q F_desk_Desk_seat [.ptr b 0, I c] h) fun a h' => a = (if s.here = true then .ptr b (1 + c * 8) else .nilp) ∧ h' = h := by
  have hc7 : c < 7 := by have := (List.getElem?_eq_some_iff.1 hc).1; omega
  refine R_desk_Desk_seat _ _ (hX _ _ rfl) ?_
  have hp := ixp_at (len := 7) (z := 8) (b := b) (o := 1) hc7
  have at0 := deskC_at (br := br) hc (k := 0) (by decide)
  rw [Nat.add_zero] at at0
  unfold S_desk_Desk_seat
  cases hs : s.here with
  | true =>
    simp [show ¬ (c : Int) < 1 by omega, show ¬ (6 : Int) < c by omega, hp, o.1, at0, seatC, hs, J_desk_Desk_seat_0]
    exact Tells.ok ⟨rfl, rfl⟩
  | false =>
    simp [show ¬ (c : Int) < 1 by omega, show ¬ (6 : Int) < c by omega, hp, o.1, at0, seatC, hs]
    exact Tells.ok ⟨rfl, rfl⟩
theorem desk_New (hX : OnlyKnown X) (br : Int) (h : Heap) :
    Tells (fun q => acallX Try.prog X q F_desk_New [I br] h) fun a h' => ∃ b, a = .ptr b 0 ∧ Ob h' b (deskC br (List.replicate 7 seat0)) ∧ Ext [] h h' ∧ h.next ≤ b := by
  refine R_desk_New _ (hX _ _ rfl) ?_
  refine Tells.prot fun Q' hQ => ?_
  unfold S_desk_New
  simp [bldR, fillR, splice]
  refine Tells.box rfl rfl fun h1 b ob x l => ?_
  try simp
  exact Tells.ok (hQ _ _ ⟨b, rfl, ob, x, l⟩)
theorem desk_Attach (hX : OnlyKnown X) {h : Heap} {b : Nat} {br : Int} {ss : List Seat} (o : Ob h b (deskC br ss)) (hl : ss.length = 7) {c : Nat} {s : Seat} (h1 : 1 ≤ c) (hc : ss[c]? = some s) (hs : s.here = false) :
    Tells (fun q => acallX Try.prog X q F_desk_Desk_Attach [.ptr b 0, I c] h) fun a h' => a = I 0 ∧ Ob h' b (deskC br (ss.set c { s with here := true })) ∧ Ext [b] h h' := by
  have hc7 : c < 7 := by have := (List.getElem?_eq_some_iff.1 hc).1; omega
  refine R_desk_Desk_Attach _ _ (hX _ _ rfl) ?_
  refine Tells.prot fun Q' hQ => ?_
  have hp := ixp_at (len := 7) (z := 8) (b := b) (o := 1) hc7
  have at0 := deskC_at (br := br) hc (k := 0) (by decide)
  rw [Nat.add_zero] at at0
  have set0 := deskC_set (br := br) (s' := { s with here := true }) (v := .bool true) hc (k := 0) (by decide) rfl
  rw [Nat.add_zero] at set0
  unfold S_desk_Desk_Attach
  simp [show ¬ (c : Int) < 1 by omega, show ¬ (6 : Int) < c by omega, J_desk_Desk_Attach_0, hp, o.1, at0, seatC, hs, J_desk_Desk_Attach_1]
  refine Tells.st1 o (by rfl) (by rfl) (by rw [deskC_len, hl]; omega) fun h2 o2 x2 => ?_
  rw [set0] at o2
  try simp
  exact Tells.ok (hQ _ _ ⟨rfl, o2, x2⟩)
theorem desk_clone (hX : OnlyKnown X) {h : Heap} {x : Sn} {va : AVal} (oa : Sl attrR h va x.ats) (la : x.ats.length ≤ 100) :
    Tells (fun q => acallX Try.prog X q F_desk_clone [.agg (snC x va)] h) fun a h' => ∃ va', a = .agg (snC x va') ∧ Sl attrR h' va' x.ats ∧ Ext [] h h' := by
  refine R_desk_clone _ (hX _ _ rfl) ?_
  refine Tells.prot fun Q' hQ => ?_
  unfold S_desk_clone
  try simp
  refine Tells.box (cs := snC x va) (by simp [snC, AVal.known, oa.known]) (by simp [snC, AVal.cells]) fun h1 be oe x1 l1 => ?_
  try simp
  refine Tells.new fun h2 b2 o2 x2 l2 => ?_
  have oe2 := oe.e x2
  have hne : be ≠ b2 := by have := oe.lt; omega
  simp [oe2.1, snC]
  refine Tells.bind (attr_Copy hX (oa.ext (x1.trans x2)) la) ?_
  rintro v3 h3 ⟨g3, x3, w3⟩
  have oe3 := oe2.e x3
  try simp
  refine Tells.st1 oe3 g3.1.cells g3.1.one (by simp [snC]) fun h4 oe4 x4 => ?_
  have o4 : Ob h4 b2 [I 0, I 0, I 0, .nils] := (o2.e x3).ext x4 (by simpa using hne.symm)
  have a4 := g3.1.ext x4
  simp [oe4.1, snC]
  refine Tells.stN o4 (ds := snC x v3) (by rfl) (by rfl) (by simp [snC, a4.one]) (by rfl) fun h5 o5 x5 => ?_
  have nx := x1.next
  have e4 : Ext [] h h4 := ((x1.trans x2).trans x3).then x4 fun z hz => .inr (by simp at hz; omega)
  simp [C_desk_clone_0, o5.1, snC]
  exact Tells.ok (hQ _ _ ⟨v3, rfl, a4.ext x5, e4.then x5 fun z hz => .inr (by simp at hz; omega)⟩)
end
end Go.Proofs.Ytbolfamaffbnnaa

/-! desk: Hear, Poll, Log. -/
namespace Go.Proofs.Ytbolfamaffbnnaa
open Go.Ab
section
variable {X : XTab}
theorem desk_Hear (hX : OnlyKnown X) {h0 h : Heap} {b : Nat} {br : Int} {ss : List Seat} (o : Ob h b (deskC br ss)) (hl : ss.length = 7) {c : Nat} {s : Seat} (h1 : 1 ≤ c) (hc : ss[c]? = some s) (hs : s.here = true)
    {xs : List Sn} (lo : Gl snR h0 h s.vlog xs) (hle : h0.next ≤ h.next) (hxs : xs.length < 2 ^ 30) {x : Sn} {va : AVal} (oa : Sl attrR h va x.ats) (la : x.ats.length ≤ 100) :
    Tells (fun q => acallX Try.prog X q F_desk_Desk_Hear [.ptr b 0, I c, .agg (snC x va)] h) fun a h' => a = .bool true ∧ Ext (b :: s.vlog.blks) h h' ∧ (∀ S, b ∈ S → Ext S h0 h → Ext S h0 h') ∧ ∃ vl', Ob h' b (deskC br (ss.set c { s with vlog := vl' })) ∧ Gl snR h0 h' vl' (xs ++ [x]) ∧ (∀ y, y ∈ vl'.blks → y ∈ s.vlog.blks ∨ h.next ≤ y) := by
  have hc7 : c < 7 := by have := (List.getElem?_eq_some_iff.1 hc).1; omega
  refine R_desk_Desk_Hear _ _ _ (hX _ _ rfl) ?_
  refine Tells.prot fun Q' hQ => ?_
  have at6 := deskC_at (br := br) hc (k := 6) (by decide)
  have pn := fun y z => ptr_nil (t := 79) Try.underlying79 y z b (1 + c * 8)
  unfold S_desk_Desk_Hear
  try simp
  refine Tells.box (cs := snC x va) (by simp [snC, AVal.known, oa.known]) (by simp [snC, AVal.cells]) fun g1 be oe x1 l1 => ?_
  have hne : be ≠ b := by have := o.lt; omega
  try simp
  refine Tells.bind (desk_seat hX (o.e x1) hl h1 hc) ?_
  rintro _ g1 ⟨rfl, rfl⟩
  have o1 := o.e x1
  simp [hs, pn, J_desk_Desk_Hear_0, o1.1, at6, seatC, oe.1, snC]
  refine Tells.cbE (desk_clone hX (oa.ext x1) la) ?_
  rintro _ g2 ⟨va2, rfl, oa2, x2⟩
  have x12 := x1.trans x2
  have o2 := o.e x12
  simp [o2.1, at6, seatC]
  have hre : snR.rep g2 (snC x va2) x := ⟨va2, rfl, oa2⟩
  refine Tells.app1E (r := snR) (lo.e x12) (by simp [AVal.cells, snC]) (by simp [AVal.known, snC, oa2.known]) hre (by rfl) (by rfl) (by omega) (by decide) (Nat.le_trans hle x12.next) fun v3 g3 gl3 x3 y3 z3 => ?_
  have o3 := o2.ext x3 (lo.1.ob o)
  try simp
  refine Tells.st1E o3 gl3.1.cells gl3.1.one (by rw [deskC_len, hl]; omega) fun g4 o4 x4 => ?_
  rw [deskC_set (br := br) (s' := { s with vlog := v3 }) hc (k := 6) (by decide) rfl] at o4
  try simp
  have hb3 : b ∉ v3.blks := gl3.1.ob o3
  refine Tells.ok (hQ _ _ ⟨rfl, ?_, fun S hS k => (y3 S (k.quiet x12)).then x4 fun z hz => .inl (by simp at hz; subst hz; exact hS), v3, o4, gl3.ext x4 (fun z hz q => hb3 (by rw [← List.mem_singleton.1 q]; exact hz)), fun y hy => (z3 y hy).imp_right (Nat.le_trans x12.next)⟩)
  exact ((x12.of (S := s.vlog.blks)).trans x3 |>.mono (fun z hz => List.mem_cons_of_mem _ hz)).then x4 fun z hz => .inl (by simp at hz; simp [hz])
theorem desk_Poll (hX : OnlyKnown X) {h : Heap} {b : Nat} {br : Int} {ss : List Seat} (o : Ob h b (deskC br ss)) (hl : ss.length = 7) {c : Nat} {s : Seat} (h1 : 1 ≤ c) (hc : ss[c]? = some s) (hs : s.here = true)
    {xs : List Sn} (lo : Sl snR h s.vlog xs) (hxs : xs.length < 2 ^ 30) (hat : ∀ x, x ∈ xs → x.ats.length ≤ 100) {rd : Nat} (hr : s.read = rd) :
    Tells (fun q => acallX Try.prog X q F_desk_Desk_Poll [.ptr b 0, I c] h) fun a h' => Ext [b] h h' ∧ ((xs[rd]? = none ∧ a = .tup [.agg (snC sn0 .nils), I 4] ∧ Ob h' b (deskC br ss)) ∨
      (∃ x va, xs[rd]? = some x ∧ a = .tup [.agg (snC x va), I 0] ∧ Sl attrR h' va x.ats ∧ Ob h' b (deskC br (ss.set c { s with read := (rd : Int) + 1 })))) := by
  have hc7 : c < 7 := by have := (List.getElem?_eq_some_iff.1 hc).1; omega
  refine R_desk_Desk_Poll _ _ (hX _ _ rfl) ?_
  refine Tells.prot fun Q' hQ => ?_
  have at6 := deskC_at (br := br) hc (k := 6) (by decide)
  have at7 := deskC_at (br := br) hc (k := 7) (by decide)
  have pn := fun y z => ptr_nil (t := 79) Try.underlying79 y z b (1 + c * 8)
  unfold S_desk_Desk_Poll
  try simp
  refine Tells.new fun g1 b2 o2 x1 l1 => ?_
  have hne : b ≠ b2 := by have := o.lt; omega
  try simp
  refine Tells.bind (desk_seat hX (o.e x1) hl h1 hc) ?_
  rintro _ g1 ⟨rfl, rfl⟩
  have o1 := o.e x1
  have lo1 := lo.ext x1
  by_cases hlt : rd < xs.length
  · obtain ⟨x, hx⟩ : ∃ x, xs[rd]? = some x := ⟨_, List.getElem?_eq_getElem hlt⟩
    have w : IntKind.i64.wrap ((rd : Int) + 1) = rd + 1 := wrap_id (by omega) (by omega)
    have w2 : IntKind.i64.wrap (rd : Int) = rd := wrap_id (by omega) (by omega)
    simp [hs, pn, o1.1, at6, at7, seatC, hr, lo1.len, show ¬ (xs.length : Int) ≤ rd by omega, J_desk_Desk_Poll_0, w]
    refine Tells.st1 o1 (by rfl) (by rfl) (by rw [deskC_len, hl]; omega) fun g2 o3 x2 => ?_
    rw [deskC_set (br := br) (s' := { s with read := (rd : Int) + 1 }) hc (k := 7) (by decide) rfl] at o3
    have hc' : (ss.set c { s with read := (rd : Int) + 1 })[c]? = some { s with read := (rd : Int) + 1 } := by
      rw [List.getElem?_set, if_pos rfl, if_pos (by omega)]
    have bt6 := deskC_at (br := br) hc' (k := 6) (by decide)
    have bt7 := deskC_at (br := br) hc' (k := 7) (by decide)
    have lo2 := lo1.ext x2
    obtain ⟨bb, p, B, va, q1, q2, q3, q4, oa, q5⟩ := sn_at lo2 hx
    simp [o3.1, bt6, bt7, seatC, w2, q1, q2, q3, q4]
    refine Tells.cbE (desk_clone hX oa (hat x (List.mem_of_getElem? hx))) ?_
    rintro _ g3 ⟨va3, rfl, oa3, x3⟩
    have o23 : Ob g3 b2 [I 0, I 0, I 0, .nils] := (o2.ext x2 (by simpa using hne.symm)).e x3
    try simp
    refine Tells.stNE o23 (ds := snC x va3) (by rfl) (by rfl) (by simp [snC, oa3.one]) (by rfl) fun g4 o4 x4 => ?_
    simp [C_desk_Desk_Poll_0, o4.1, snC]
    refine Tells.ok (hQ _ _ ⟨((x1.of.trans x2).trans x3.of).then x4 fun z hz => .inr (by simp at hz; omega), .inr ⟨x, va3, hx, rfl, oa3.ext x4, (o3.e x3).ext x4 (by simpa using hne)⟩⟩)
  · simp [hs, pn, o1.1, at6, at7, seatC, hr, lo1.len, show (xs.length : Int) ≤ rd by omega, bldR, fillR]
    refine Tells.stN o2 (ds := snC sn0 .nils) (by rfl) (by rfl) (by rfl) (by rfl) fun g2 o3 x2 => ?_
    simp [C_desk_Desk_Poll_0, o3.1, snC]
    exact Tells.ok (hQ _ _ ⟨x1.of.then x2 fun z hz => .inr (by simp at hz; omega), .inl ⟨List.getElem?_eq_none (by omega), rfl, o1.ext x2 (by simpa using hne)⟩⟩)
theorem desk_Log (hX : OnlyKnown X) {h : Heap} {b : Nat} {br : Int} {ss : List Seat} (o : Ob h b (deskC br ss)) (hl : ss.length = 7) {c : Nat} {s : Seat} (h1 : 1 ≤ c) (hc : ss[c]? = some s) (hs : s.here = true)
    {xs : List Sn} (lo : Sl snR h s.vlog xs) (hxs : xs.length < 2 ^ 30) (hat : ∀ x, x ∈ xs → x.ats.length ≤ 100) :
    Tells (fun q => acallX Try.prog X q F_desk_Desk_Log [.ptr b 0, I c] h) fun a h' => Ext [] h h' ∧ Sl snR h' a xs := by
  have hc7 : c < 7 := by have := (List.getElem?_eq_some_iff.1 hc).1; omega
  refine R_desk_Desk_Log _ _ (hX _ _ rfl) ?_
  refine Tells.prot fun Q' hQ => ?_
  have at6 := deskC_at (br := br) hc (k := 6) (by decide)
  have pn := fun y z => ptr_nil' (t := 79) Try.underlying79 y z b (1 + c * 8)
  unfold S_desk_Desk_Log
  try simp
  refine Tells.bind (desk_seat hX o hl h1 hc) ?_
  rintro _ h ⟨rfl, rfl⟩
  simp [hs, pn, o.1, at6, seatC, lo.len]
  refine Tells.bind (Tells.loop (fun n t g => ∃ i : Nat, t 17 = s.vlog ∧ t 18 = I xs.length ∧ t 19 = I i ∧ i + n = xs.length ∧ Ext [] h g ∧ Gl snR h g (t 5) (xs.take i))
    (Q := fun p g => p.1 = .exit 0 ∧ Ext [] h g ∧ Sl snR g (p.2 5) xs) ?_ xs.length _ _ ?_) ?_
  · rintro n t g ⟨i, t17, t18, t19, hi, x, gl⟩
    refine Tells.prot fun Q2 hQ2 => ?_
    unfold L_desk_Desk_Log_1
    simp [t18, t19]
    refine Tells.cb (fun hlt => ?_) (fun hlt => ?_)
    · simp at hlt
      obtain ⟨y, hy⟩ : ∃ y, xs[i]? = some y := ⟨_, List.getElem?_eq_getElem hlt⟩
      obtain ⟨bb, p, B, va, q1, q2, q3, q4, oa, q5⟩ := sn_at (lo.ext x) hy
      have w : IntKind.i64.wrap ((i : Int) + 1) = i + 1 := wrap_id (by omega) (by omega)
      simp [J_desk_Desk_Log_2, t17, t19, q1, q2, q3, q4]
      refine Tells.newSt (ds := snC y va) (by rfl) (by rfl) (by rfl) (by simp [snC, oa.one]) fun g1 bn on xn ln => ?_
      have on1 := on.1
      simp only [snC] at on1
      simp [on1]
      refine Tells.bind (desk_clone hX (x := y) (oa.ext xn) (hat y (List.mem_of_getElem? hy))) ?_
      rintro _ g2 ⟨va2, rfl, oa2, x2⟩
      have X2 := xn.trans x2
      have hre : snR.rep g2 (snC y va2) y := ⟨va2, rfl, oa2⟩
      try simp
      refine Tells.app1 (r := snR) (gl.e X2) (by simp [AVal.cells, snC]) (by simp [AVal.known, snC, oa2.known]) hre (by rfl) (by rfl) (by simp; omega) (by decide) (x.trans X2).next fun v3 g3 gl3 x3 y3 z3 => ?_
      have ht : xs.take (i + 1) = xs.take i ++ [y] := by rw [List.take_add_one, hy]; rfl
      simp [J_desk_Desk_Log_3, t19, w]
      exact Tells.ok (hQ2 _ _ (.inl ⟨rfl, n - 1, by omega, i + 1, by simp [t17], by simp [t18], by simp, by omega, y3 _ (x.trans X2), by simpa [ht] using gl3⟩))
    · simp at hlt
      rw [List.take_of_length_le (by omega)] at gl
      exact Tells.ok (hQ2 _ _ (.inr ⟨by simp, rfl, x, by simpa using gl.1⟩))
  · exact ⟨0, by simp, by simp, by simp, by omega, .refl, by simpa using Gl.nil⟩
  · rintro ⟨ex, t⟩ g ⟨rfl, x, ol⟩
    simp [J_desk_Desk_Log_0]
    exact Tells.ok (hQ _ _ ⟨x, ol⟩)
end
end Go.Proofs.Ytbolfamaffbnnaa

/-! Tests and subscriptions in the heap. -/
namespace Go.Proofs.Ytbolfamaffbnnaa
open Go.Ab

def vlR : Rp Vl := ⟨5, by decide, fun _ cs x => cs = vlC x, fun h => by rw [h]; rfl, fun h => by rw [h]; rfl, fun h _ => h⟩

/-- A test: name, kind, V, W, set. -/
structure Prd where
  name : ByteArray
  test : Int
  v : Vl
  w : Vl
  set : List Vl
def prC (p : Prd) (sv : AVal) : List AVal := .str p.name :: I p.test :: (vlC p.v ++ (vlC p.w ++ [sv]))
/-- A test, whose set's class began where Z says. -/
def prZ (Z : Nat → Prop) : Rp Prd where
  n := 13
  pos := by decide
  rep := fun h cs p => ∃ sv, cs = prC p sv ∧ SlN vlR h sv p.set ∧ ∀ c, c ∈ sv.blks → Z (h.root c)
  len := fun ⟨sv, e, _⟩ => by rw [e]; rfl
  one := fun ⟨sv, e, o, _⟩ => by rw [e]; simp [prC, vlC, o.one]
  ext := fun ⟨sv, e, o, z⟩ x => ⟨sv, e, o.ext x, fun c hc => by rw [root_ext x (o.blk c hc).2]; exact z c hc⟩
def prF : Fam Prd where
  r := prZ
  n := 13
  hn := fun _ => rfl
  mono := fun hz ⟨sv, e, o, z⟩ => ⟨sv, e, o, fun c hc => hz _ (Nat.lt_of_le_of_lt (root_le _ c) (o.blk c hc).2) (z c hc)⟩
  extC := fun nz x ⟨sv, e, o, z⟩ => ⟨sv, e, o.extC (fun q => q) x (Apart.of fun c hc q => nz (by rw [← q]; exact z c hc)), fun c hc => by unfold Heap.root; rw [x.cls]; exact z c hc⟩

/-- A subscription: client, broker, number, filter. -/
structure Sx where
  c : Int
  b : Int
  n : Int
  fl : List Prd
def sxC (s : Sx) (fv : AVal) : List AVal := [I s.c, I s.b, I s.n, fv]
def sxZ (Z : Nat → Prop) : Rp Sx where
  n := 4
  pos := by decide
  rep := fun h cs s => ∃ fv, cs = sxC s fv ∧ SlN (prZ Z) h fv s.fl ∧ ∀ c, c ∈ fv.blks → Z (h.root c)
  len := fun ⟨sv, e, _⟩ => by rw [e]; rfl
  one := fun ⟨sv, e, o, _⟩ => by rw [e]; simp [sxC, o.one]
  ext := fun ⟨sv, e, o, z⟩ x => ⟨sv, e, o.ext x, fun c hc => by rw [root_ext x (o.blk c hc).2]; exact z c hc⟩
def sxF : Fam Sx where
  r := sxZ
  n := 4
  hn := fun _ => rfl
  mono := fun hz ⟨sv, e, o, z⟩ => ⟨sv, e, SlN.fam prF o hz, fun c hc => hz _ (Nat.lt_of_le_of_lt (root_le _ c) (o.blk c hc).2) (z c hc)⟩
  extC := fun {Z b h h' cs x} nz x' ⟨sv, e, o, z⟩ => ⟨sv, e, SlN.famC prF o x' nz (Apart.of fun c hc q => nz (by rw [← q]; exact z c hc)), fun c hc => by unfold Heap.root; rw [x'.cls]; exact z c hc⟩

/-- A change: gone, subscription. -/
structure Cg where
  gone : Bool
  s : Sx
def cgZ (Z : Nat → Prop) : Rp Cg where
  n := 5
  pos := by decide
  rep := fun h cs x => ∃ fv, cs = .bool x.gone :: sxC x.s fv ∧ SlN (prZ Z) h fv x.s.fl ∧ ∀ c, c ∈ fv.blks → Z (h.root c)
  len := fun ⟨sv, e, _⟩ => by rw [e]; rfl
  one := fun ⟨sv, e, o, _⟩ => by rw [e]; simp [sxC, o.one]
  ext := fun ⟨sv, e, o, z⟩ x => ⟨sv, e, o.ext x, fun c hc => by rw [root_ext x (o.blk c hc).2]; exact z c hc⟩
def cgF : Fam Cg where
  r := cgZ
  n := 5
  hn := fun _ => rfl
  mono := fun hz ⟨sv, e, o, z⟩ => ⟨sv, e, SlN.fam prF o hz, fun c hc => hz _ (Nat.lt_of_le_of_lt (root_le _ c) (o.blk c hc).2) (z c hc)⟩
  extC := fun {Z b h h' cs x} nz x' ⟨sv, e, o, z⟩ => ⟨sv, e, SlN.famC prF o x' nz (Apart.of fun c hc q => nz (by rw [← q]; exact z c hc)), fun c hc => by unfold Heap.root; rw [x'.cls]; exact z c hc⟩

abbrev prR := prZ fun _ => True
abbrev sxR := sxZ fun _ => True
abbrev cgR := cgZ fun _ => True
end Go.Proofs.Ytbolfamaffbnnaa

/-! What filter.Copy and subs' clone, copies tell. -/
namespace Go.Proofs.Ytbolfamaffbnnaa
open Go.Ab

section
variable {X : XTab}

theorem flag_at {α : Type} {l : List α} {i : Nat} {p : α} (h : l[i]? = some p) : ((l.take i).map (fun x => (x, true)) ++ (l.drop i).map fun x => (x, false))[i]? = some (p, false) := by
  have hlt := (List.getElem?_eq_some_iff.1 h).1
  have e : ((l.take i).map fun x => (x, true)).length = i := by simp; omega
  rw [List.getElem?_append_right (by omega), e, Nat.sub_self, List.getElem?_map, List.getElem?_drop, Nat.add_zero, h]
  rfl
theorem flag_set {α : Type} {l : List α} {i : Nat} {p : α} (h : l[i]? = some p) : ((l.take i).map (fun x => (x, true)) ++ (l.drop i).map fun x => (x, false)).set i (p, true) = (l.take (i + 1)).map (fun x => (x, true)) ++ (l.drop (i + 1)).map fun x => (x, false) := by
  have hlt := (List.getElem?_eq_some_iff.1 h).1
  have e : ((l.take i).map fun x => (x, true)).length = i := by simp; omega
  rw [List.set_append, if_neg (by omega), e, Nat.sub_self, List.drop_eq_getElem_cons hlt, List.map_cons, List.set_cons_zero, List.take_add_one, h]
  simp

theorem filter_Copy (hX : OnlyKnown X) {h : Heap} {v : AVal} {fl : List Prd} {Z : Nat → Prop} (o : SlN (prZ Z) h v fl) (hl : fl.length ≤ 1000) (hs : ∀ p, p ∈ fl → p.set.length ≤ 1000) :
    Tells (fun q => acallX Try.prog X q F_filter_Copy [v] h) fun r h' => RowZ prF h.next h h' r fl ∧ Ext [] h h' := by
  refine R_filter_Copy _ (hX _ _ rfl) ?_
  refine Tells.prot fun Q' hQ => ?_
  unfold S_filter_Copy
  try simp
  refine Tells.copyZN (F := prF) (K := 0) o (fun _ _ _ => Nat.zero_le _) (by rfl) (by omega) (by decide) fun s1 h1 rz1 x1 => ?_
  have rf1 : RowZ (flagF prF h.next) 0 h h1 s1 ((fl.take 0).map (fun x => (x, true)) ++ (fl.drop 0).map fun x => (x, false)) := by simpa using rz1.flag (K := h.next)
  simp [rz1.len]
  refine Tells.bind (Tells.loop (fun n t g => ∃ i : Nat, t 3 = s1 ∧ t 8 = I fl.length ∧ t 9 = I i ∧ i + n = fl.length ∧ RowZ (flagF prF h.next) 0 h g s1 ((fl.take i).map (fun x => (x, true)) ++ (fl.drop i).map fun x => (x, false)) ∧ Ext [] h g)
    (Q := fun p g => p.1 = .exit 0 ∧ p.2 3 = s1 ∧ RowZ prF h.next h g s1 fl ∧ Ext [] h g) ?_ fl.length _ _ ⟨0, by simp, by simp, by simp, by omega, rf1, x1⟩) ?_
  · rintro n t g ⟨i, t3, t8, t9, hi, rz, xg⟩
    refine Tells.prot fun Q2 hQ2 => ?_
    unfold L_filter_Copy_1
    simp [t8, t9]
    refine Tells.cb (fun hc => ?_) (fun hc => ?_)
    · simp at hc
      obtain ⟨p, hp⟩ : ∃ p, fl[i]? = some p := ⟨_, List.getElem?_eq_getElem hc⟩
      have hps := hs p (List.mem_of_getElem? hp)
      have w : IntKind.i64.wrap ((i : Int) + 1) = i + 1 := wrap_id (by omega) (by omega)
      obtain ⟨b, q, B, c, q1, q2, sv, rfl, os, _⟩ := rz.at (n := 13) rfl (flag_at hp)
      have q4 := q2.cell (k := 12) (by simp [prC, vlC])
      simp [prC, vlC] at q4
      simp [J_filter_Copy_2, t3, t9, q1, q2.get, q4]
      refine Tells.copyN os (by rfl) (by show p.set.length ≤ _; omega) (by decide) fun s2 g2 gs x2 w2 => ?_
      have rz2 := rz.e x2
      have ng := xg.next
      obtain ⟨b', q', B', c', v', m1, m2, m3, m4, i1, i2, ⟨sv', i3, i3', _⟩, put⟩ := rz2.set1 (n := 13) rfl (flag_at hp)
      cases q1.symm.trans i1
      subst i3
      obtain ⟨g3, p1, p2, p3⟩ := put 12 s2 (p, true) (by decide) gs.1.cells gs.1.one ⟨s2, by simp [prC, vlC], .inl gs.1, fun d hd => by
        obtain ⟨k1, k2, k3⟩ := w2 d hd
        refine ⟨⟨?_, Nat.zero_le _⟩, fun _ => by omega⟩
        rintro ⟨d', hd', e⟩
        have k4 := (rz.1 d' hd').2.2
        rw [root_ext x2 k4] at e
        have := root_le g d'
        omega⟩
      rw [flag_set hp] at p3
      simp [p1, J_filter_Copy_3, t9, w]
      exact Tells.ok (hQ2 _ _ (.inl ⟨rfl, n - 1, by omega, i + 1, by simp [t3], by simp [t8], by simp, by omega, p3, (xg.trans x2).extC p2 m3⟩))
    · simp at hc
      have hfl : fl.take i = fl := List.take_of_length_le (by omega)
      have hfd : fl.drop i = [] := List.drop_eq_nil_of_le (by omega)
      rw [hfl, hfd] at rz
      exact Tells.ok (hQ2 _ _ (.inr ⟨by simp, rfl, by simp [t3], (by simpa using rz : RowZ (flagF prF h.next) 0 h g s1 (fl.map fun x => (x, true))).unflag, xg⟩))
  · rintro ⟨ex, t⟩ g ⟨rfl, t3, rz, xg⟩
    have t3 : t 3 = s1 := t3
    simp [J_filter_Copy_0, t3]
    exact Tells.ok (hQ _ _ ⟨rz, xg⟩)
end
end Go.Proofs.Ytbolfamaffbnnaa
