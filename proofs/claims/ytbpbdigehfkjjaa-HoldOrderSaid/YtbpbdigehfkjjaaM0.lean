/-
  Texts of a claim, merged: HandP, Hand0, HandV, AttrD, RefV, Clock0, Clock1, Stamp0, Ev0, Hold0, Hold1, Hold2.
-/
import Derived.Test.YtbpbdigehfkjjaaB1
import Derived.Test.YtbpbdigehfkjjaaSprecentorhand
import Derived.Test.YtbpbdigehfkjjaaB3
import Derived.Test.YtbpbdigehfkjjaaCell0
import Derived.Test.YtbpbdigehfkjjaaSmath
import Derived.Test.YtbpbdigehfkjjaaOps
import Derived.Test.YtbpbdigehfkjjaaSprecentorref1
import Derived.Test.YtbpbdigehfkjjaaB2
import Derived.Test.YtbpbdigehfkjjaaSclock
import Derived.Test.YtbpbdigehfkjjaaEq2
import Derived.Test.YtbpbdigehfkjjaaShold
set_option linter.unusedVariables false
set_option linter.unusedSimpArgs false
/-! What precentorhand's Pick tells. -/
namespace Go.Proofs.Ytbpbdigehfkjjaa
open Go.Ab

section
variable {X : XTab}

def pick (n m : Int) : Int := if m < 1 then 0 else if n.tmod m < 0 then n.tmod m + m else n.tmod m

theorem pick_lo (n m : Int) : 0 ≤ pick n m := by
  unfold pick
  split
  · omega
  · split
    · have := Int.lt_tmod_of_pos n (show 0 < m by omega); omega
    · omega
theorem pick_hi (n m : Int) (h : 1 ≤ m) : pick n m < m := by
  unfold pick
  have := Int.tmod_lt_of_pos n (show 0 < m by omega)
  split
  · omega
  · split <;> omega

theorem Pick (hX : OnlyKnown X) (n m : Int) (hm : In64 m) (h : Heap) : Tells (fun q => acallX Try.prog X q F_precentorhand_Pick [I n, I m] h) fun v h' => v = I (pick n m) ∧ h' = h := by
  refine R_precentorhand_Pick _ _ (hX _ _ rfl) ?_
  unfold S_precentorhand_Pick
  simp
  by_cases h1 : m < 1
  · simp [h1]
    exact Tells.ok ⟨by simp [pick, h1], rfl⟩
  · simp [h1, J_precentorhand_Pick_0, aBin_rem _ _ _ _ _ _ _ (show m ≠ 0 by omega)]
    by_cases h2 : n.tmod m < 0
    · simp [h2, J_precentorhand_Pick_1]
      refine Tells.ok ⟨?_, rfl⟩
      have := Int.lt_tmod_of_pos n (show 0 < m by omega)
      rw [wrap_id (by omega) (by have := hm.2; omega)]
      simp [pick, h1, h2]
    · simp [h2, J_precentorhand_Pick_1]
      exact Tells.ok ⟨by simp [pick, h1, h2], rfl⟩

end
end Go.Proofs.Ytbpbdigehfkjjaa

/-! What precentorhand's Next tells. -/
namespace Go.Proofs.Ytbpbdigehfkjjaa
open Go.Ab

/-- A feed of raw numbers, asked k times at most. -/
def Feed (h : Heap) (bf k : Nat) : Prop := ∃ L at_ xs, Ob h bf [L, I at_] ∧ 0 ≤ at_ ∧ at_ ≤ (k : Int) ∧ Sl intR h L xs ∧ xs.length < 2 ^ 63 ∧ ∀ c, c ∈ L.blks → c < h.n0
theorem Feed.ext {S : List Nat} {h h' : Heap} {bf k : Nat} (f : Feed h bf k) (e : Ext S h h') (hb : bf ∉ S) : Feed h' bf k := by
  obtain ⟨L, a, xs, h1, h2, h3, h4, h5, h6⟩ := f
  exact ⟨L, a, xs, h1.ext e hb, h2, h3, h4.ext e, h5, by rw [e.n0]; exact h6⟩
theorem Feed.e {h h' : Heap} {bf k : Nat} (f : Feed h bf k) (e : Ext [] h h') : Feed h' bf k := f.ext e (by simp)
theorem Feed.mono {h : Heap} {bf k k' : Nat} (f : Feed h bf k) (hk : k ≤ k') : Feed h bf k' := by
  obtain ⟨L, a, xs, h1, h2, h3, h4⟩ := f
  exact ⟨L, a, xs, h1, h2, by omega, h4⟩
theorem Feed.lt {h : Heap} {bf k : Nat} (f : Feed h bf k) : bf < h.next := by obtain ⟨L, a, xs, h1, _⟩ := f; exact h1.lt
theorem Feed.m {h : Heap} {bf k : Nat} (f : Feed h bf k) : h.isM bf = true := by obtain ⟨L, a, xs, h1, _⟩ := f; exact h1.2.1

section
variable {X : XTab}

theorem Next (hX : OnlyKnown X) (n : Int) (hn : In64 n) {h : Heap} {bf k : Nat} (f : Feed h bf k) (hk : k < 2 ^ 62) :
    Tells (fun q => acallX Try.prog X q F_precentorhand_Feed_Next [.ptr bf 0, I n] h) fun v h' => ∃ r, v = I r ∧ 0 ≤ r ∧ (1 ≤ n → r < n) ∧ (n < 1 → r = 0) ∧ Ext [bf] h h' ∧ Feed h' bf (k + 1) := by
  refine R_precentorhand_Feed_Next _ _ (hX _ _ rfl) ?_
  unfold S_precentorhand_Feed_Next
  obtain ⟨L, a, xs, h1, h2, h3, h4, h5, h6⟩ := f
  have hlen := h4.len
  by_cases hz : xs.length = 0
  · simp [h1.1, hlen, hz]
    exact Tells.ok ⟨0, rfl, by omega, fun _ => by omega, fun _ => rfl, .refl, ⟨L, a, xs, h1, h2, by omega, h4, h5, h6⟩⟩
  · have hl : (xs.length : Int) ≠ 0 := by omega
    have hl2 : ((xs.length : Int) == 0) = false := beq_eq_false_iff_ne.2 hl
    have m0 : 0 ≤ a.tmod xs.length := Int.tmod_nonneg _ h2
    have m1 : a.tmod xs.length < xs.length := Int.tmod_lt_of_pos _ (by omega)
    obtain ⟨x, hx⟩ : ∃ x, xs[(a.tmod xs.length).toNat]? = some x := ⟨_, List.getElem?_eq_getElem (by omega)⟩
    obtain ⟨b, p, B, c, q1, q2, q3⟩ := h4.at (n := 1) rfl m0 hx
    have d0 : 0 ≤ a.tdiv xs.length := Int.tdiv_nonneg h2 (by omega)
    have d1 : a.tdiv xs.length ≤ a := Int.tdiv_le_self _ h2
    have w1 : IntKind.i64.wrap (a.tdiv xs.length) = a.tdiv xs.length := wrap_id (by omega) (by omega)
    have w2 : IntKind.i64.wrap (1 + a.tdiv xs.length) = 1 + a.tdiv xs.length := wrap_id (by omega) (by omega)
    have w3 : IntKind.i64.wrap (a + 1) = a + 1 := wrap_id (by omega) (by omega)
    have q4 := q2.ld0 (x := I x) (by rw [q3]; rfl)
    obtain ⟨h', s1, s2, s3⟩ := h1.st (off := 1) (n := 1) (v := I (a + 1)) rfl rfl (by simp)
    simp only [ld1_ptr, cell_eq] at q4
    simp [h1.1, hlen, hl2, J_precentorhand_Feed_Next_0, aBin_rem _ _ _ _ _ _ _ hl, aBin_quo _ _ _ _ _ _ _ hl, q1, q4, w1, w2, aBin_quo _ _ _ _ _ _ _ (show 1 + a.tdiv xs.length ≠ 0 by omega), w3, s1]
    refine Tells.bind (Pick hX _ n hn _) ?_
    rintro v h' ⟨rfl, rfl⟩
    exact Tells.ok ⟨_, rfl, pick_lo _ _, pick_hi _ _, fun q => by simp [pick, q], s3, ⟨L, a + 1, xs, by simpa [splice] using s2, by omega, by omega, h4.ext s3, h5, by rw [s3.n0]; exact h6⟩⟩

end
end Go.Proofs.Ytbpbdigehfkjjaa

/-! What precentorhand's Float, Value and Attrs tell. -/
namespace Go.Proofs.Ytbpbdigehfkjjaa
open Go.Ab

theorem Tells.app1WE {β : Type} {Q : β → Heap → Prop} {h : Heap} {call : Nat → FuncId → List AVal → Heap → Res AVal} {α : Type} {r : Rp α} {h0 : Heap} {xs : List α} {s v : AVal} {c z : List AVal} {x : α} {n by_ : Nat} {k : Nat → AVal → AVal → Heap → Res β} (g : Gl r h0 h s xs) (wr : Wr h0 h s) (hv : v.cells = c) (hk : v.known = true) (hx : r.rep h c x) (hn : r.n = n) (hz : z.length = n) (hl : xs.length < 2 ^ 33)
    (hby : by_ ≤ 2 ^ 12) (hle : h0.next ≤ h.next) (q : ∀ s' h', Gl r h0 h' s' (xs ++ [x]) → Wr h0 h' s' → Ext s.blks h h' → (∀ S, Ext S h0 h → Ext S h0 h') → (∀ b, b ∈ s'.blks → b ∈ s.blks ∨ h.next ≤ b) → Tells (fun m => k m (.sl h.next 0 1 1 n true) s' h') Q) :
    Tells (fun m => arbV (bslR n z 1 h [(0, n, v)]) fun a h2 => arbE (appR n by_ h2 s a) (call m) (k m a)) Q := by
  subst hv
  have hc : v.cells.length = n := by rw [← hn]; exact r.len hx
  obtain ⟨s', h', q1, q2, q3, q4, q5⟩ := g.app1 (by_ := by_) hx hn hl hby hle
  have e1 := Ext.new h false v.cells
  simp only [bsl1 hz hk hc, arbV_val, q1, arbE_val]
  exact q s' h' q2 (appR_wr q1 (wr.ext e1) (Nat.le_trans hle e1.next)) q3 q4 q5
theorem nat_bits (b : Nat) : aNat Try.prog F_math_Float64bits [.flt .f64 b] = some (.int .u64 b) := by kernel_rfl
theorem nat_frombits (n : Int) : aNat Try.prog F_math_Float64frombits [.int .u64 n] = some (.flt .f64 n.toNat) := by kernel_rfl

/-- A value: its kind, whole number, float's bits, text, bool. -/
structure Vl where
  k : Int
  n : Int
  x : Nat
  s : ByteArray
  b : Bool
def vlC (v : Vl) : List AVal := [I v.k, I v.n, .flt .f64 v.x, .str v.s, .bool v.b]
def fl14 : List Nat := [0, 9223372036854775808, 4607182418800017408, 4609434218613702656, 4611686018427387904, 4613937818241073152, 13830554455654793216, 4591870180066957722, 9221120237041090561, 9218868437227405312, 18442240474082181120, 4845873199050653696, 4890909195324358656, 1]
def texts6 : List ByteArray := [bs [], bs [97], bs [97, 98], bs [98], bs [98, 97], bs [116, 119, 101, 108, 118, 101, 32, 98, 121, 116, 101, 115]]
def ints6 : List Int := [-9223372036854775808, 9223372036854775807, 9007199254740992, 9007199254740993, -1, 4611686018427387904]
/-- A value that the feed tells. -/
def FedV (v : Vl) : Prop := (v.k = 1 ∧ v.x = 0 ∧ v.s = bs [] ∧ v.b = false ∧ In64 v.n) ∨ (v.k = 2 ∧ v.n = 0 ∧ v.x ∈ fl14 ∧ v.s = bs [] ∧ v.b = false) ∨
  (v.k = 3 ∧ v.n = 0 ∧ v.x = 0 ∧ v.s ∈ texts6 ∧ v.b = false) ∨ (v.k = 4 ∧ v.n = 0 ∧ v.x = 0 ∧ v.s = bs [])
abbrev Att := ByteArray × Vl
def attC (a : Att) : List AVal := .str a.1 :: vlC a.2
def attrR : Rp Att := ⟨6, by decide, fun _ cs x => cs = attC x, fun h => by rw [h]; rfl, fun h => by rw [h]; rfl, fun h _ => h⟩
def names5 : List ByteArray := [bs [97], bs [98], bs [99], bs [100], bs [108, 111, 110, 103]]

section
variable {X : XTab}

theorem Copysign0 (hX : OnlyKnown X) (h : Heap) : Tells (fun q => acallX Try.prog X q F_math_Copysign [.flt .f64 0, .flt .f64 13830554455654793216] h) fun r h' => r = .flt .f64 9223372036854775808 ∧ h' = h := by
  refine R_math_Copysign _ _ (hX _ _ rfl) ?_
  unfold S_math_Copysign
  have e1 : ∀ t x y, aBin Try.prog .andNot t x y (.int .u64 0) (.int .u64 9223372036854775808) = some (.int .u64 0) := fun t x y => by kernel_rfl
  have e2 : ∀ t x y, aBin Try.prog .and t x y (.int .u64 13830554455654793216) (.int .u64 9223372036854775808) = some (.int .u64 9223372036854775808) := fun t x y => by kernel_rfl
  have e3 : ∀ t x y, aBin Try.prog .or t x y (.int .u64 0) (.int .u64 9223372036854775808) = some (.int .u64 9223372036854775808) := fun t x y => by kernel_rfl
  have n1 := nat_bits 0
  have n2 := nat_bits 13830554455654793216
  have n3 := nat_frombits 9223372036854775808
  simp at n1 n2 n3
  simp [n1, n2, e1, e2, e3, n3]
  exact Tells.ok ⟨rfl, rfl⟩
theorem NaN_ (hX : OnlyKnown X) (h : Heap) : Tells (fun q => acallX Try.prog X q F_math_NaN [] h) fun r h' => r = .flt .f64 9221120237041090561 ∧ h' = h := by
  refine R_math_NaN (hX _ _ rfl) ?_
  unfold S_math_NaN
  have n3 := nat_frombits 9221120237041090561
  simp at n3
  simp [n3]
  exact Tells.ok ⟨rfl, rfl⟩
theorem Inf_ (hX : OnlyKnown X) (s : Int) (h : Heap) : Tells (fun q => acallX Try.prog X q F_math_Inf [I s] h) fun r h' => r = .flt .f64 (if 0 ≤ s then 9218868437227405312 else 18442240474082181120) ∧ h' = h := by
  refine R_math_Inf _ (hX _ _ rfl) ?_
  unfold S_math_Inf
  have n3 := nat_frombits 9218868437227405312
  have n4 := nat_frombits 18442240474082181120
  simp at n3 n4
  by_cases q : 0 ≤ s
  · simp [q, J_math_Inf_0, n3]
    exact Tells.ok ⟨rfl, rfl⟩
  · simp [q, J_math_Inf_0, n4]
    exact Tells.ok ⟨rfl, rfl⟩

theorem FloatH (hX : OnlyKnown X) {h : Heap} {bf k : Nat} (f : Feed h bf k) (hk : k < 2 ^ 62) :
    Tells (fun q => acallX Try.prog X q F_precentorhand_Feed_Float [.ptr bf 0] h) fun r h' => ∃ x, r = .flt .f64 x ∧ x ∈ fl14 ∧ Ext [bf] h h' ∧ Feed h' bf (k + 1) := by
  refine R_precentorhand_Feed_Float _ (hX _ _ rfl) ?_
  refine Tells.prot fun Q' hQ => ?_
  unfold S_precentorhand_Feed_Float
  try simp
  refine Tells.bind (Copysign0 hX h) ?_
  rintro _ h ⟨rfl, rfl⟩
  try simp
  refine Tells.bind (NaN_ hX h) ?_
  rintro _ h ⟨rfl, rfl⟩
  try simp
  refine Tells.bind (Inf_ hX 1 h) ?_
  rintro _ h ⟨rfl, rfl⟩
  try simp
  refine Tells.bind (Inf_ hX (-1) h) ?_
  rintro _ h ⟨rfl, rfl⟩
  simp [bldR, fillR, splice]
  refine Tells.newSt (ds := fl14.map fun x => .flt .f64 x) (by rfl) (by rfl) (by rfl) (by rfl) fun h1 bl o1 x1 l1 => ?_
  try simp
  refine Tells.bind (Next hX 14 ⟨by decide, by decide⟩ (f.e x1) hk) ?_
  rintro _ h2 ⟨r, rfl, r0, r1, _, x2, f2⟩
  have r1 := r1 (by decide)
  obtain ⟨n, rfl⟩ : ∃ n : Nat, r = n := ⟨r.toNat, by omega⟩
  have hn : n < 14 := by omega
  have hp := ixp_at (len := 14) (z := 1) (b := bl) (o := 0) hn
  rw [Nat.mul_one] at hp
  have o2 := o1.ext x2 (by have := f.lt; simp; omega)
  obtain ⟨x, hx⟩ : ∃ x, fl14[n]? = some x := ⟨_, List.getElem?_eq_getElem (by simpa [fl14] using hn)⟩
  have hx2 : (fl14.map fun x => AVal.flt .f64 x)[n]? = some (.flt .f64 x) := by rw [List.getElem?_map, hx]; rfl
  rw [Nat.zero_add] at hp
  simp only [hp, of_some, arb_val, ld1_ptr, cell_eq, o2.1, hx2, lt_eq, retK_ret, resK_tmp, resK_nil, upd_same, one_one, bind_ok']
  exact Tells.ok (hQ _ _ ⟨x, rfl, List.mem_of_getElem? hx, x1.of.then x2 fun z hz => .inl hz, f2⟩)

theorem ValueH (hX : OnlyKnown X) {h : Heap} {bf k : Nat} (f : Feed h bf k) (hk : k < 2 ^ 61) :
    Tells (fun q => acallX Try.prog X q F_precentorhand_Feed_Value [.ptr bf 0] h) fun r h' => ∃ v, r = .agg (vlC v) ∧ FedV v ∧ Ext [bf] h h' ∧ Feed h' bf (k + 2) := by
  refine R_precentorhand_Feed_Value _ (hX _ _ rfl) ?_
  refine Tells.prot fun Q' hQ => ?_
  unfold S_precentorhand_Feed_Value
  try simp
  refine Tells.new fun h1 bv o1 x1 l1 => ?_
  have hne : bf ≠ bv := by have := f.lt; omega
  try simp
  refine Tells.bind (Next hX 8 ⟨by decide, by decide⟩ (f.e x1) (by omega)) ?_
  rintro _ h2 ⟨r, rfl, r0, r1, _, x2, f2⟩
  have o2 := o1.ext x2 (by simpa using hne.symm)
  have x02 : Ext [bf] h h2 := x1.of.then x2 fun z hz => .inl hz
  -- the end of each way
  have fin : ∀ (g : Heap) (v : Vl) (K : Nat), K ≤ k + 2 → FedV v → Ob g bv (vlC v) → Ext [bf] h g → Feed g bf K → Q' (.agg (vlC v)) g := fun g v K hK hv o x f => hQ _ _ ⟨v, rfl, hv, x, f.mono hK⟩
  have xs : ∀ {g g' : Heap}, Ext [bf] h g → Ext [bv] g g' → Ext [bf] h g' := fun a b => a.then b fun z hz => .inr (by simp at hz; omega)
  have one : ∀ (ty : Nat), (∀ h a, aLoad Try.prog h ty a = ldn 5 h a) → ∀ (t : T) (q : Bool), t 0 = .ptr bf 0 → t 2 = .ptr bv 0 → t 6 = I r → t 7 = .bool q → Tells (fun m => J_precentorhand_Feed_Value_1 Try.prog (acallX Try.prog X m) m (blkK 0 (sqK (J_precentorhand_Feed_Value_0 Try.prog (acallX Try.prog X m) m (retK Try.prog [.cell 2 ty])) (retK Try.prog [.cell 2 ty]))) t h2) Q' := by
    intro ty hty t q t0 t2 t6 t7
    unfold J_precentorhand_Feed_Value_1
    cases q with
    | true =>
      simp [t7, t0]
      refine Tells.bind (FloatH hX f2 (by omega)) ?_
      rintro _ h3 ⟨x, rfl, hx, x3, f3⟩
      have o3 := o2.ext x3 (by simpa using hne.symm)
      simp [bldR, fillR, splice, t2]
      refine Tells.stN o3 (ds := vlC ⟨2, 0, x, bs [], false⟩) (by rfl) (by rfl) (by rfl) (by rfl) fun h4 o4 x4 => ?_
      simp [t2, hty, o4.1]
      exact Tells.ok (fin h4 ⟨2, 0, x, bs [], false⟩ (k + 2) (Nat.le_refl _) (.inr (.inl ⟨rfl, rfl, hx, rfl, rfl⟩)) o4 (xs (x02.trans x3) x4) (f3.ext x4 (by simpa using hne)))
    | false =>
      by_cases c2 : r = 2
      · simp [t7, t6, c2, bldR, fillR, splice]
        refine Tells.newSt (ds := texts6.map AVal.str) (by rfl) (by rfl) (by rfl) (by rfl) fun h3 bl o3 x3 l3 => ?_
        have f3 := f2.e x3
        simp [t0]
        refine Tells.bind (Next hX 6 ⟨by decide, by decide⟩ f3 (by omega)) ?_
        rintro _ h4 ⟨u, rfl, u0, u1, _, x4, f4⟩
        have u1 := u1 (by decide)
        obtain ⟨n, rfl⟩ : ∃ n : Nat, u = n := ⟨u.toNat, by omega⟩
        have hn : n < 6 := by omega
        have hp := ixp_at (len := 6) (z := 1) (b := bl) (o := 0) hn
        rw [Nat.mul_one, Nat.zero_add] at hp
        have o4 := o3.ext x4 (by have := f2.lt; simp; omega)
        have v4 := (o2.e x3).ext x4 (by simpa using hne.symm)
        obtain ⟨s, hs⟩ : ∃ s, texts6[n]? = some s := ⟨_, List.getElem?_eq_getElem (by simpa [texts6] using hn)⟩
        have hs2 : (texts6.map AVal.str)[n]? = some (.str s) := by rw [List.getElem?_map, hs]; rfl
        simp only [hp, of_some, arb_val, ld1_ptr, cell_eq, o4.1, hs2, lt_eq]
        simp [t2]
        refine Tells.stN v4 (ds := vlC ⟨3, 0, 0, s, false⟩) (by rfl) (by rfl) (by rfl) (by rfl) fun h5 o5 x5 => ?_
        simp [t2, hty, o5.1]
        exact Tells.ok (fin h5 ⟨3, 0, 0, s, false⟩ (k + 2) (Nat.le_refl _) (.inr (.inr (.inl ⟨rfl, rfl, rfl, List.mem_of_getElem? hs, rfl⟩))) o5 (xs ((x02.quiet x3).trans x4) x5) (f4.ext x5 (by simpa using hne)))
      · have e2 : (r == 2) = false := beq_eq_false_iff_ne.2 c2
        by_cases c3 : r = 3
        · simp [t7, t6, c3, t0]
          refine Tells.bind (Next hX 2 ⟨by decide, by decide⟩ f2 (by omega)) ?_
          rintro _ h3 ⟨u, rfl, _, _, _, x3, f3⟩
          have o3 := o2.ext x3 (by simpa using hne.symm)
          simp [bldR, fillR, splice, t2]
          refine Tells.stN o3 (ds := vlC ⟨4, 0, 0, bs [], u == 1⟩) (by rfl) (by rfl) (by rfl) (by rfl) fun h4 o4 x4 => ?_
          simp [t2, hty, o4.1]
          exact Tells.ok (fin h4 ⟨4, 0, 0, bs [], u == 1⟩ (k + 2) (Nat.le_refl _) (.inr (.inr (.inr ⟨rfl, rfl, rfl, rfl⟩))) o4 (xs (x02.trans x3) x4) (f3.ext x4 (by simpa using hne)))
        · have e3 : (r == 3) = false := beq_eq_false_iff_ne.2 c3
          by_cases c4 : r = 4
          · simp [t7, t6, c4, bldR, fillR, splice]
            refine Tells.newSt (ds := ints6.map I) (by rfl) (by rfl) (by rfl) (by rfl) fun h3 bl o3 x3 l3 => ?_
            have f3 := f2.e x3
            simp [t0]
            refine Tells.bind (Next hX 6 ⟨by decide, by decide⟩ f3 (by omega)) ?_
            rintro _ h4 ⟨u, rfl, u0, u1, _, x4, f4⟩
            have u1 := u1 (by decide)
            obtain ⟨n, rfl⟩ : ∃ n : Nat, u = n := ⟨u.toNat, by omega⟩
            have hn : n < 6 := by omega
            have hp := ixp_at (len := 6) (z := 1) (b := bl) (o := 0) hn
            rw [Nat.mul_one, Nat.zero_add] at hp
            have o4 := o3.ext x4 (by have := f2.lt; simp; omega)
            have v4 := (o2.e x3).ext x4 (by simpa using hne.symm)
            obtain ⟨s, hs⟩ : ∃ s, ints6[n]? = some s := ⟨_, List.getElem?_eq_getElem (by simpa [ints6] using hn)⟩
            have hs2 : (ints6.map I)[n]? = some (I s) := by rw [List.getElem?_map, hs]; rfl
            have hin : In64 s := by
              have : s ∈ ints6 := List.mem_of_getElem? hs
              simp [ints6] at this
              unfold In64
              omega
            simp only [hp, of_some, arb_val, ld1_ptr, cell_eq, o4.1, hs2, lt_eq]
            simp [t2]
            refine Tells.stN v4 (ds := vlC ⟨1, s, 0, bs [], false⟩) (by rfl) (by rfl) (by rfl) (by rfl) fun h5 o5 x5 => ?_
            simp [t2, hty, o5.1]
            exact Tells.ok (fin h5 ⟨1, s, 0, bs [], false⟩ (k + 2) (Nat.le_refl _) (.inl ⟨rfl, rfl, rfl, rfl, hin⟩) o5 (xs ((x02.quiet x3).trans x4) x5) (f4.ext x5 (by simpa using hne)))
          · have e4 : (r == 4) = false := beq_eq_false_iff_ne.2 c4
            simp [t7, t6, e2, e3, e4, J_precentorhand_Feed_Value_0, t0]
            refine Tells.bind (Next hX 5 ⟨by decide, by decide⟩ f2 (by omega)) ?_
            rintro _ h3 ⟨u, rfl, u0, u1, _, x3, f3⟩
            have u1 := u1 (by decide)
            have o3 := o2.ext x3 (by simpa using hne.symm)
            simp [bldR, fillR, splice, t2]
            refine Tells.stN o3 (ds := vlC ⟨1, u, 0, bs [], false⟩) (by rfl) (by rfl) (by rfl) (by rfl) fun h4 o4 x4 => ?_
            simp [t2, hty, o4.1]
            have hu : In64 u := ⟨by omega, by omega⟩
            exact Tells.ok (fin h4 ⟨1, u, 0, bs [], false⟩ (k + 2) (Nat.le_refl _) (.inl ⟨rfl, rfl, rfl, rfl, hu⟩) o4 (xs (x02.trans x3) x4) (f3.ext x4 (by simpa using hne)))
  by_cases c0 : r = 0
  · subst c0
    try simp
    exact one _ C_precentorhand_Feed_Value_0 _ _ (by simp) (by simp) (by simp) (by simp; rfl)
  · have e0 : (r == 0) = false := beq_eq_false_iff_ne.2 c0
    simp [e0]
    exact one _ C_precentorhand_Feed_Value_0 _ (r == 1) (by simp) (by simp) (by simp) (by simp)

theorem AttrsW (hX : OnlyKnown X) {h : Heap} {bf k : Nat} (f : Feed h bf k) (hk : k < 2 ^ 60) :
    Tells (fun q => acallX Try.prog X q F_precentorhand_Feed_Attrs [.ptr bf 0] h) fun r h' => ∃ ats : List Att, Gl attrR h h' r ats ∧ Wr h h' r ∧ ats.length ≤ 5 ∧ (ats.map (·.1)).Sublist names5 ∧ (∀ a, a ∈ ats → FedV a.2) ∧ Ext [bf] h h' ∧ Feed h' bf (k + 15) := by
  refine R_precentorhand_Feed_Attrs _ (hX _ _ rfl) ?_
  refine Tells.prot fun Q' hQ => ?_
  unfold S_precentorhand_Feed_Attrs
  simp [bldR, fillR, splice]
  refine Tells.newSt (ds := names5.map AVal.str) (by rfl) (by rfl) (by rfl) (by rfl) fun h1 bl o1 x1 l1 => ?_
  have hne : bf ≠ bl := by have := f.lt; omega
  try simp
  refine Tells.bind (Tells.loop (fun n t g => ∃ (i : Nat) (ats : List Att), t 0 = .ptr bf 0 ∧ t 4 = .ptr bl 0 ∧ t 5 = I i ∧ i + n = 5 ∧ Gl attrR h g (t 3) ats ∧ Wr h g (t 3) ∧ ats.length ≤ i ∧ (ats.map (·.1)).Sublist (names5.take i) ∧ (∀ a, a ∈ ats → FedV a.2) ∧ Ob g bl (names5.map AVal.str) ∧ Ext [bf] h g ∧ Feed g bf (k + 3 * i))
    (Q := fun p g => p.1 = .exit 0 ∧ ∃ ats : List Att, Gl attrR h g (p.2 3) ats ∧ Wr h g (p.2 3) ∧ ats.length ≤ 5 ∧ (ats.map (·.1)).Sublist names5 ∧ (∀ a, a ∈ ats → FedV a.2) ∧ Ext [bf] h g ∧ Feed g bf (k + 15)) ?_ 5 _ _ ?_) ?_
  · rintro n t g ⟨i, ats, t0, t4, t5, hi, ga, wa, hl, hs, hv, on, x, f⟩
    refine Tells.prot fun Q2 hQ2 => ?_
    unfold L_precentorhand_Feed_Attrs_1
    by_cases hc : i < 5
    · have w : IntKind.i64.wrap ((i : Int) + 1) = i + 1 := wrap_id (by omega) (by omega)
      have quo : ∀ t x y, aBin Try.prog .quo t x y (I i) (I 3) = some (I (IntKind.i64.wrap ((i : Int).tdiv 3))) := fun t x y => aBin_quo _ _ _ _ _ _ _ (by decide)
      simp [t5, show (i : Int) < 5 by omega, J_precentorhand_Feed_Attrs_2, t0]
      refine Tells.bind (Next hX 3 ⟨by decide, by decide⟩ f (by omega)) ?_
      rintro _ g1 ⟨r, rfl, r0, r1, _, x2, f2⟩
      have on1 := on.ext x2 (by simpa using hne.symm)
      have ga1 := ga.extO x2 (by simpa using .inl f.m)
      have htk : names5.take (i + 1) = names5.take i ++ (names5[i]?).toList := List.take_add_one
      obtain ⟨nm, hnm⟩ : ∃ s, names5[i]? = some s := ⟨_, List.getElem?_eq_getElem (by simpa [names5] using hc)⟩
      have hnm2 : (names5.map AVal.str)[i]? = some (.str nm) := by rw [List.getElem?_map, hnm]; rfl
      have hp := ixp_at (len := 5) (z := 1) (b := bl) (o := 0) hc
      rw [Nat.mul_one, Nat.zero_add] at hp
      rw [hnm] at htk
      simp [t5, quo]
      refine Tells.cb (fun hc2 => ?_) (fun hc2 => ?_)
      · simp only [t4, t5, t0, hp, of_some, obv_val, ld1_ptr, cell_eq, on1.1, hnm2, ifb_true, arbE_call, lt_eq]
        refine Tells.cbE (ValueH hX f2 (by omega)) ?_
        rintro _ g2 ⟨v, rfl, hv2, x3, f3⟩
        have on2 := on1.ext x3 (by simpa using hne.symm)
        have ga2 := ga1.extO x3 (by simpa using .inl f2.m)
        simp only [ld1_ptr, cell_eq, on2.1, hnm2, of_some, arVal_val, isV_self, Bool.and_true, ifb_true]
        have hb : bldR [.str (bs []), .int .i64 0, .int .i64 0, .flt .f64 0, .str (bs []), .bool false] [(0, 1, .str nm), (1, 5, .agg (vlC v))] = some (.agg (attC (nm, v))) := by
          simp [bldR, fillR, splice, attC, vlC]
        simp only [hb, of_some, obv_val]
        refine Tells.app1WE ga2 ((wa.ext x2).ext x3) (by rfl) (by rfl) (show attrR.rep g2 (attC (nm, v)) (nm, v) from rfl) (by rfl) (by rfl) (by omega) (by decide) ((x.trans x2).trans x3).next fun s6 h6 g6 w6 x6 y6 z6 => ?_
        have on6 := on2.ext x6 (ga2.1.ob on2)
        have f6 := f3.ext x6 (fun q => by have := (ga2.1.blk _ q).1; rw [f3.m] at this; cases this)
        simp [J_precentorhand_Feed_Attrs_3, t5, w]
        refine Tells.ok (hQ2 _ _ (.inl ⟨rfl, n - 1, by omega, i + 1, ats ++ [(nm, v)], by simp [t0], by simp [t4], by simp, by omega, by simpa using g6, by simpa using w6, by simp; omega, ?_, fun a ha => ?_, on6, y6 _ ((x.trans x2).trans x3), f6.mono (by omega)⟩))
        · rw [htk, List.map_append]
          exact hs.append (by simp)
        · rcases List.mem_append.1 ha with q | q
          · exact hv a q
          · simp at q; subst q; exact hv2
      · simp [J_precentorhand_Feed_Attrs_3, t5, w]
        refine Tells.ok (hQ2 _ _ (.inl ⟨rfl, n - 1, by omega, i + 1, ats, by simp [t0], by simp [t4], by simp, by omega, by simpa using ga1, by simpa using wa.ext x2, by omega, ?_, hv, on1, x.trans x2, f2.mono (by omega)⟩))
        rw [htk]
        exact hs.trans (List.sublist_append_left _ _)
    · have : i = 5 := by omega
      subst this
      simp [t5]
      exact Tells.ok (hQ2 _ _ (.inr ⟨by simp, rfl, ats, by simpa using ga, by simpa using wa, hl, hs, hv, x, f⟩))
  · exact ⟨0, [], by simp, by simp, by simp, by omega, by simpa using Gl.nil, fun b hb => by simp [AVal.blks] at hb, by simp, by simp, by simp, o1, x1.of, f.e x1⟩
  · rintro ⟨ex, t⟩ g ⟨rfl, ats, ga, wa, hl, hs, hv, x, f⟩
    simp [J_precentorhand_Feed_Attrs_0]
    exact Tells.ok (hQ _ _ ⟨ats, ga, wa, hl, hs, hv, x, f⟩)
theorem AttrsH (hX : OnlyKnown X) {h : Heap} {bf k : Nat} (f : Feed h bf k) (hk : k < 2 ^ 60) :
    Tells (fun q => acallX Try.prog X q F_precentorhand_Feed_Attrs [.ptr bf 0] h) fun r h' => ∃ ats : List Att, Gl attrR h h' r ats ∧ ats.length ≤ 5 ∧ (ats.map (·.1)).Sublist names5 ∧ (∀ a, a ∈ ats → FedV a.2) ∧ Ext [bf] h h' ∧ Feed h' bf (k + 15) := by
  exact (AttrsW hX f hk).mono fun _ _ ⟨ats, ga, _, q⟩ => ⟨ats, ga, q⟩
end
end Go.Proofs.Ytbpbdigehfkjjaa

/-! When floats, values and attributes are the same; reading an attribute. -/
namespace Go.Proofs.Ytbpbdigehfkjjaa
open Go.Ab

/-- A float's bits: one nought, one NaN. -/
def bitsF (x : Nat) : Int := if (ford x x != some .eq) = true then 9221120237041090560 else if (ford x 0 == some .eq) = true then 0 else x
def sameV (v w : Vl) : Bool := v.k == w.k && v.n == w.n && v.s.toList == w.s.toList && v.b == w.b && bitsF v.x == bitsF w.x
theorem sameV_self (v : Vl) : sameV v v = true := by simp [sameV]
def getA (l : List Att) (nm : ByteArray) : Option Att := l.find? fun a => a.1.toList == nm.toList
def vl0 : Vl := ⟨0, 0, 0, bs [], false⟩
def sameA : List Att → List Att → Bool
  | [], [] => true
  | a :: l, b :: m => (a.1.toList == b.1.toList && sameV a.2 b.2) && sameA l m
  | _, _ => false
theorem sameA_self : ∀ l : List Att, sameA l l = true
  | [] => rfl
  | a :: l => by simp [sameA, sameV_self, sameA_self l]
theorem sameA_len : ∀ {l m : List Att}, l.length ≠ m.length → sameA l m = false
  | [], [], h => absurd rfl h
  | a :: l, b :: m, h => by simp only [sameA, sameA_len (l := l) (m := m) (by simpa using h), Bool.and_false]
  | [], _ :: _, _ => rfl
  | _ :: _, [], _ => rfl
theorem sameA_drop {l m : List Att} {i : Nat} {a b : Att} (h1 : l[i]? = some a) (h2 : m[i]? = some b) : sameA (l.drop i) (m.drop i) = ((a.1.toList == b.1.toList && sameV a.2 b.2) && sameA (l.drop (i + 1)) (m.drop (i + 1))) := by
  have a1 := List.getElem?_eq_some_iff.1 h1
  have a2 := List.getElem?_eq_some_iff.1 h2
  rw [List.drop_eq_getElem_cons a1.1, List.drop_eq_getElem_cons a2.1, a1.2, a2.2]
  rfl

theorem att_at {h : Heap} {v : AVal} {ats : List Att} (o : Sl attrR h v ats) {i : Nat} {a : Att} (hx : ats[i]? = some a) :
    ∃ b p B, ixsR 6 v (.int .i64 (i : Int)) = some (.ptr b p) ∧ h.get b = some B ∧ p + 6 ≤ B.length ∧ (B.drop p).take 6 = attC a ∧ B[p]? = some (.str a.1) ∧ p + 1 + 5 ≤ B.length ∧ (B.drop (p + 1)).take 5 = vlC a.2 := by
  obtain ⟨b, p, B, c, q1, e, r⟩ := o.at (n := 6) rfl (i := (i : Int)) (by omega) (by simpa using hx)
  have r : c = attC a := r
  subst r
  have l := e.le
  have s := e.sub 1 5 (by simp [attC, vlC])
  have sl := s.le
  have se := s.eq
  have e0 := e.eq
  simp only [attC, vlC, List.length_cons, List.length_nil] at l sl e0
  exact ⟨b, p, B, q1, e.get, by omega, e0, e.cell0 (by simp [attC]), by omega, se⟩

end Go.Proofs.Ytbpbdigehfkjjaa

/-! What precentorref1's Bits, SameValue and SameAttrs tell. -/
namespace Go.Proofs.Ytbpbdigehfkjjaa
open Go.Ab
section
variable {X : XTab}
theorem ref_Bits (hX : OnlyKnown X) (x : Nat) (h : Heap) : Tells (fun q => acallX Try.prog X q F_precentorref1_Bits [.flt .f64 x] h) fun r h' => r = .int .u64 (bitsF x) ∧ h' = h := by
  refine R_precentorref1_Bits _ (hX _ _ rfl) ?_
  refine Tells.prot fun Q' hQ => ?_
  unfold S_precentorref1_Bits
  cases h1 : (ford x x != some .eq) with
  | true =>
    simp [h1]
    exact Tells.ok (hQ _ _ ⟨by simp [bitsF, h1], rfl⟩)
  | false =>
    cases h2 : (ford x 0 == some .eq) with
    | true =>
      simp [h1, J_precentorref1_Bits_0, h2]
      exact Tells.ok (hQ _ _ ⟨by simp [bitsF, h1, h2], rfl⟩)
    | false =>
      simp [h1, J_precentorref1_Bits_0, h2, J_precentorref1_Bits_1, nat_bits]
      exact Tells.ok (hQ _ _ ⟨by simp [bitsF, h1, h2], rfl⟩)
theorem ref_SameValue (hX : OnlyKnown X) (v w : Vl) (h : Heap) : Tells (fun q => acallX Try.prog X q F_precentorref1_SameValue [.agg (vlC v), .agg (vlC w)] h) fun r h' => r = .bool (sameV v w) ∧ Ext [] h h' := by
  refine R_precentorref1_SameValue _ _ (hX _ _ rfl) ?_
  refine Tells.prot fun Q' hQ => ?_
  have u4 := Try.underlying4
  unfold S_precentorref1_SameValue
  try simp
  refine Tells.box rfl rfl fun h1 ba oa x1 l1 => ?_
  try simp
  refine Tells.box rfl rfl fun h2 bb ob x2 l2 => ?_
  have oa2 := oa.e x2
  have x := x1.trans x2
  by_cases c1 : v.k = w.k
  · have c1' : (v.k == w.k) = true := by simp [c1]
    by_cases c2 : v.n = w.n
    · have c2' : (v.n == w.n) = true := by simp [c2]
      simp [oa2.1, ob.1, vlC, c1, c2]
      refine Tells.cbE (ref_Bits hX v.x h2) ?_
      rintro _ h2 ⟨rfl, rfl⟩
      simp [oa2.1, ob.1, vlC]
      refine Tells.cbE (ref_Bits hX w.x h2) ?_
      rintro _ h2 ⟨rfl, rfl⟩
      by_cases c5 : bitsF v.x = bitsF w.x
      · have c5' : (bitsF v.x == bitsF w.x) = true := by simp [c5]
        cases c3 : (v.s.toList == w.s.toList) with
        | true =>
          by_cases c4 : v.b = w.b
          · have c4' : (v.b == w.b) = true := by simp [c4]
            simp [oa2.1, ob.1, vlC, c5, c3, c4, u4]
            exact Tells.ok (hQ _ _ ⟨by simp [sameV, c1', c2', c3, c4', c5'], x⟩)
          · have c4' : (v.b == w.b) = false := beq_eq_false_iff_ne.2 c4
            simp [oa2.1, ob.1, vlC, c5, c3, c4', u4]
            exact Tells.ok (hQ _ _ ⟨by simp [sameV, c1', c2', c3, c4', c5'], x⟩)
        | false =>
          simp [oa2.1, ob.1, vlC, c5, c3]
          exact Tells.ok (hQ _ _ ⟨by simp [sameV, c1', c2', c3], x⟩)
      · have c5' : (bitsF v.x == bitsF w.x) = false := beq_eq_false_iff_ne.2 c5
        simp [oa2.1, ob.1, vlC, c5']
        exact Tells.ok (hQ _ _ ⟨by simp [sameV, c1', c2', c5'], x⟩)
    · have c2' : (v.n == w.n) = false := beq_eq_false_iff_ne.2 c2
      simp [oa2.1, ob.1, vlC, c1, c2']
      exact Tells.ok (hQ _ _ ⟨by simp [sameV, c1', c2'], x⟩)
  · have c1' : (v.k == w.k) = false := beq_eq_false_iff_ne.2 c1
    simp [oa2.1, ob.1, vlC, c1']
    exact Tells.ok (hQ _ _ ⟨by simp [sameV, c1'], x⟩)
theorem ref_SameAttrs (hX : OnlyKnown X) {h : Heap} {v u : AVal} {l m : List Att} (o : Sl attrR h v l) (p : Sl attrR h u m) (hl : l.length < 2 ^ 60) (hm : m.length < 2 ^ 60) :
    Tells (fun q => acallX Try.prog X q F_precentorref1_SameAttrs [v, u] h) fun r h' => r = .bool (sameA l m) ∧ Ext [] h h' := by
  refine R_precentorref1_SameAttrs _ _ (hX _ _ rfl) ?_
  refine Tells.prot fun Q' hQ => ?_
  unfold S_precentorref1_SameAttrs
  by_cases hlen : l.length = m.length
  · have hb : ((l.length : Int) != m.length) = false := by simp [hlen]
    simp [o.len, p.len, hb, J_precentorref1_SameAttrs_0]
    refine Tells.bind (Tells.loop (fun n t g => ∃ i : Nat, t 0 = v ∧ t 1 = u ∧ t 5 = I i ∧ i + n = l.length ∧ Ext [] h g ∧ sameA l m = sameA (l.drop i) (m.drop i))
      (Q := fun p g => Ext [] h g ∧ ((p.1 = .exit 0 ∧ sameA l m = true) ∨ (p.1 = .ret ∧ p.2 4 = .bool false ∧ sameA l m = false))) ?_ l.length _ _ ?_) ?_
    · rintro n t g ⟨i, t0, t1, t5, hi, x, hs⟩
      refine Tells.prot fun Q2 hQ2 => ?_
      unfold L_precentorref1_SameAttrs_2
      simp [t0, t5, (o.ext x).len]
      refine Tells.cb (fun hc => ?_) (fun hc => ?_)
      · simp at hc
        obtain ⟨a, ha⟩ : ∃ a, l[i]? = some a := ⟨_, List.getElem?_eq_getElem hc⟩
        obtain ⟨b, hb⟩ : ∃ b, m[i]? = some b := ⟨_, List.getElem?_eq_getElem (by omega)⟩
        obtain ⟨b1, p1, B1, q1, q2, q3, q4, q5, q6, q7⟩ := att_at (o.ext x) ha
        obtain ⟨b2, p2, B2, r1, r2, r3, r4, r5, r6, r7⟩ := att_at (p.ext x) hb
        have w : IntKind.i64.wrap ((i : Int) + 1) = i + 1 := wrap_id (by omega) (by omega)
        rw [sameA_drop ha hb] at hs
        cases c : (a.1.toList == b.1.toList) with
        | false =>
          simp [J_precentorref1_SameAttrs_3, t0, t1, t5, q1, q2, q5, r1, r2, r5, c]
          exact Tells.ok (hQ2 _ _ (.inr ⟨by simp, x, .inr ⟨rfl, by simp, by rw [hs, c]; rfl⟩⟩))
        | true =>
          simp [J_precentorref1_SameAttrs_3, t0, t1, t5, q1, q2, q5, q6, q7, r1, r2, r5, r6, r7, c]
          refine Tells.cbE (ref_SameValue hX a.2 b.2 g) ?_
          rintro _ g2 ⟨rfl, x2⟩
          cases c2 : sameV a.2 b.2 with
          | false =>
            try simp
            exact Tells.ok (hQ2 _ _ (.inr ⟨by simp, x.trans x2, .inr ⟨rfl, by simp, by rw [hs, c, c2]; rfl⟩⟩))
          | true =>
            simp [J_precentorref1_SameAttrs_4, t5, w]
            exact Tells.ok (hQ2 _ _ (.inl ⟨rfl, n - 1, by omega, i + 1, by simp [t0], by simp [t1], by simp, by omega, x.trans x2, by rw [hs, c, c2]; rfl⟩))
      · simp at hc
        refine Tells.ok (hQ2 _ _ (.inr ⟨by simp, x, .inl ⟨rfl, ?_⟩⟩))
        rw [hs, List.drop_eq_nil_of_le (by omega), List.drop_eq_nil_of_le (by omega)]
        rfl
    · exact ⟨0, by simp, by simp, by simp, by omega, .refl, rfl⟩
    · rintro ⟨ex, t⟩ g ⟨x, ⟨rfl, hs⟩ | ⟨rfl, t4, hs⟩⟩
      · simp [J_precentorref1_SameAttrs_1]
        exact Tells.ok (hQ _ _ ⟨by rw [hs], x⟩)
      · simp only at t4
        simp [t4]
        exact Tells.ok (hQ _ _ ⟨by rw [hs], x⟩)
  · have hb : ((l.length : Int) != m.length) = true := by simp; omega
    simp [o.len, p.len, hb]
    exact Tells.ok (hQ _ _ ⟨by rw [sameA_len hlen], .refl⟩)
end
end Go.Proofs.Ytbpbdigehfkjjaa

/-! What the functions of clock tell. -/
namespace Go.Proofs.Ytbpbdigehfkjjaa
open Go.Ab

/-- A place and its next number; a stamp's place and its number. -/
def pairR : Rp (Int × Int) := ⟨2, by decide, fun _ cs x => cs = [I x.1, I x.2], fun h => by rw [h]; rfl, fun h => by rw [h]; rfl, fun h _ => h⟩

abbrev Slots := List (Int × Int)
/-- The next number of a place. -/
def nxt : Slots → Int → Int
  | [], _ => 0
  | (q, n) :: r, p => if q = p then n else nxt r p
def has (s : Slots) (p : Int) : Bool := s.any fun x => x.1 == p
/-- The first slot of a place. -/
def idx : Slots → Int → Nat
  | [], _ => 0
  | (q, _) :: r, p => if q = p then 0 else idx r p + 1
def bump : Slots → Int → Slots
  | [], _ => []
  | (q, n) :: r, p => if q = p then (q, n + 1) :: r else (q, n) :: bump r p
def dueF (s : Slots) : Option Int → List (Int × Int) → Bool
  | _, [] => true
  | prev, (a, n) :: r => (match prev with | some b => decide (b < a) | none => true) && (!has s a || decide (nxt s a = n)) && dueF s (some a) r
def due (s : Slots) (l : List (Int × Int)) : Bool := dueF s none l
def bumps (s : Slots) (l : List (Int × Int)) : Slots := l.foldl (fun s x => bump s x.1) s
def take (s : Slots) (l : List (Int × Int)) : Slots := if due s l = true then bumps s l else s

theorem has_idx : ∀ {s : Slots} {p : Int}, has s p = true → idx s p < s.length ∧ s[idx s p]? = some (p, nxt s p)
  | [], _, h => by simp [has] at h
  | (q, n) :: r, p, h => by
    by_cases e : q = p
    · subst e; simp [idx, nxt]
    · have h' : has r p = true := by simpa [has, e] using h
      obtain ⟨h1, h2⟩ := has_idx h'
      exact ⟨by simp only [idx, if_neg e, List.length_cons]; omega, by simp only [idx, nxt, if_neg e]; exact h2⟩
theorem not_has_nxt : ∀ {s : Slots} {p : Int}, has s p = false → nxt s p = 0
  | [], _, _ => rfl
  | (q, n) :: r, p, h => by
    simp [has] at h
    have h' : has r p = false := by simp [has]; exact h.2
    simp [nxt, h.1, not_has_nxt h']
theorem bump_set : ∀ {s : Slots} {p : Int}, has s p = true → bump s p = s.set (idx s p) (p, nxt s p + 1)
  | [], _, h => by simp [has] at h
  | (q, n) :: r, p, h => by
    by_cases e : q = p
    · subst e; simp [bump, idx, nxt]
    · have h' : has r p = true := by simpa [has, e] using h
      simp [bump, idx, nxt, e, bump_set h']
theorem not_has_bump : ∀ {s : Slots} {p : Int}, has s p = false → bump s p = s
  | [], _, _ => rfl
  | (q, n) :: r, p, h => by
    simp [has] at h
    have h' : has r p = false := by simp [has]; exact h.2
    simp [bump, h.1, not_has_bump h']

/-- What find tells. -/
def fnd (s : Slots) (p : Int) : Int := if has s p = true then idx s p else -1

section
variable {X : XTab}

theorem pair_at {h : Heap} {v : AVal} {xs : List (Int × Int)} (o : Sl pairR h v xs) {i : Nat} {x : Int × Int} (hx : xs[i]? = some x) :
    ∃ b p B, ixsR 2 v (.int .i64 (i : Int)) = some (.ptr b p) ∧ h.get b = some B ∧ (if p + 2 ≤ B.length then some (AVal.agg ((B.drop p).take 2)) else none) = some (.agg [I x.1, I x.2]) ∧ B[p]? = some (I x.1) ∧ B[p + 1]? = some (I x.2) := by
  obtain ⟨b, p, B, c, q1, q2, q3⟩ := o.at (n := 2) rfl (i := (i : Int)) (by omega) (by simpa using hx)
  have q3 : c = [I x.1, I x.2] := q3
  subst q3
  have q4 := q2.lda (n := 2) rfl
  simp only [ldn_ptr, q2.get] at q4
  exact ⟨b, p, B, q1, q2.get, q4, q2.cell0 (by simp), q2.cell (k := 1) (by simp)⟩

theorem clock_find (hX : OnlyKnown X) {h : Heap} {v : AVal} {s : Slots} (o : Sl pairR h v s) (hl : s.length < 2 ^ 62) (p : Int) :
    Tells (fun q => acallX Try.prog X q F_clock_Clock_find [.agg [v], I p] h) fun a h' => a = I (fnd s p) ∧ Ext [] h h' := by
  refine R_clock_Clock_find _ _ (hX _ _ rfl) ?_
  refine Tells.prot fun Q' hQ => ?_
  unfold S_clock_Clock_find
  simp
  refine Tells.box rfl rfl fun h1 b1 o1 x1 l1 => ?_
  simp [o1.1, o.len]
  refine Tells.bind (Tells.loop (fun n t g => ∃ i : Nat, t 1 = I p ∧ t 8 = v ∧ t 9 = I s.length ∧ t 10 = I i ∧ i + n = s.length ∧ fnd s p = (if has (s.drop i) p = true then ((i + idx (s.drop i) p : Nat) : Int) else -1) ∧ Ext [] h g)
    (Q := fun pp g => Ext [] h g ∧ ((pp.1 = .exit 0 ∧ fnd s p = -1) ∨ (pp.1 = .ret ∧ pp.2 4 = I (fnd s p)))) ?_ s.length _ _ ?_) ?_
  · rintro n t g ⟨i, t1, t8, t9, t10, hi, hf, x⟩
    refine Tells.prot fun Q2 hQ2 => ?_
    unfold L_clock_Clock_find_1
    simp [t9, t10]
    refine Tells.cb (fun hc => ?_) (fun hc => ?_)
    · simp at hc
      obtain ⟨⟨a, n'⟩, hdi⟩ : ∃ d, s[i]? = some d := ⟨_, List.getElem?_eq_getElem hc⟩
      have hd : s.drop i = (a, n') :: s.drop (i + 1) := by
        rw [List.drop_eq_getElem_cons hc]; congr 1; exact (List.getElem?_eq_some_iff.1 hdi).2
      obtain ⟨b, pp, B, q1, q2, q3, q4, q5⟩ := pair_at (o.ext x) hdi
      have w : IntKind.i64.wrap ((i : Int) + 1) = i + 1 := wrap_id (by omega) (by omega)
      simp [J_clock_Clock_find_2, t8, t10, q1, q2, q3]
      refine Tells.newSt (by rfl) (by rfl) (by rfl) (by rfl) fun h2 b2 o2 x2 l2 => ?_
      simp [o2.1, t1]
      by_cases e : a = p
      · subst e
        simp
        refine Tells.ok (hQ2 _ _ (.inr ⟨by simp, x.trans x2, .inr ⟨rfl, ?_⟩⟩))
        rw [hf, hd]
        simp [has, idx]
      · simp [beq_eq_false_iff_ne.2 e, J_clock_Clock_find_3, t10, w]
        refine Tells.ok (hQ2 _ _ (.inl ⟨rfl, n - 1, by omega, i + 1, by simp [t1], by simp [t8], by simp [t9], by simp, by omega, ?_, x.trans x2⟩))
        rw [hf, hd]
        have e2 : has ((a, n') :: s.drop (i + 1)) p = has (s.drop (i + 1)) p := by simp [has, e]
        rw [e2]
        simp only [idx, if_neg e]
        split <;> omega
    · simp at hc
      refine Tells.ok (hQ2 _ _ (.inr ⟨by simp, x, .inl ⟨rfl, ?_⟩⟩))
      rw [hf, List.drop_eq_nil_of_le (by omega)]
      rfl
  · exact ⟨0, by simp, by simp, by simp, by simp, by omega, by simp [fnd], x1⟩
  · rintro ⟨ex, t⟩ g ⟨x, ⟨rfl, q⟩ | ⟨rfl, q⟩⟩
    · simp [J_clock_Clock_find_0]
      exact Tells.ok (hQ _ _ ⟨by rw [q], x⟩)
    · simp only at q
      simp [q]
      exact Tells.ok (hQ _ _ ⟨rfl, x⟩)

theorem clock_Next (hX : OnlyKnown X) {h : Heap} {v : AVal} {s : Slots} (o : Sl pairR h v s) (hl : s.length < 2 ^ 62) (p : Int) :
    Tells (fun q => acallX Try.prog X q F_clock_Clock_Next [.agg [v], I p] h) fun a h' => a = I (nxt s p) ∧ Ext [] h h' := by
  refine R_clock_Clock_Next _ _ (hX _ _ rfl) ?_
  refine Tells.prot fun Q' hQ => ?_
  unfold S_clock_Clock_Next
  simp
  refine Tells.box rfl rfl fun h1 b1 o1 x1 l1 => ?_
  simp [o1.1]
  refine Tells.bind (clock_find hX (o.ext x1) hl p) ?_
  rintro _ h2 ⟨rfl, x2⟩
  have o2 := o1.e x2
  by_cases hh : has s p = true
  · obtain ⟨i1, i2⟩ := has_idx hh
    obtain ⟨b, pp, B, q1, q2, q3, q4, q5⟩ := pair_at ((o.ext x1).ext x2) i2
    have hf : fnd s p = idx s p := by simp [fnd, hh]
    simp [hf, o2.1, q1, q2, q5]
    exact Tells.ok (hQ _ _ ⟨rfl, x1.trans x2⟩)
  · have hh : has s p = false := by simpa using hh
    have hf : fnd s p = -1 := by simp [fnd, hh]
    simp [hf, J_clock_Clock_Next_0]
    exact Tells.ok (hQ _ _ ⟨by rw [not_has_nxt hh], x1.trans x2⟩)

theorem dueF_at {s : Slots} {l : List (Int × Int)} {i : Nat} {a n : Int} (h : l[i]? = some (a, n)) (prev : Option Int) : dueF s prev (l.drop i) = ((match prev with | some b => decide (b < a) | none => true) && (!has s a || decide (nxt s a = n)) && dueF s (some a) (l.drop (i + 1))) := by
  have hlt := (List.getElem?_eq_some_iff.1 h).1
  rw [List.drop_eq_getElem_cons hlt, (List.getElem?_eq_some_iff.1 h).2]
  rfl
/-- The place that came last. -/
def prevOf (l : List (Int × Int)) : Nat → Option Int
  | 0 => none
  | i + 1 => (l[i]?).map (·.1)

theorem clock_Due (hX : OnlyKnown X) {h : Heap} {v u : AVal} {s : Slots} {l : List (Int × Int)} (o : Sl pairR h v s) (hl : s.length < 2 ^ 62) (ou : Sl pairR h u l) (hu : l.length < 2 ^ 62) :
    Tells (fun q => acallX Try.prog X q F_clock_Clock_Due [.agg [v], u] h) fun a h' => a = .bool (due s l) ∧ Ext [] h h' := by
  refine R_clock_Clock_Due _ _ (hX _ _ rfl) ?_
  refine Tells.prot fun Q' hQ => ?_
  unfold S_clock_Clock_Due
  simp
  refine Tells.box rfl rfl fun h1 bc oc x1 l1 => ?_
  simp [ou.len]
  refine Tells.bind (Tells.loop (fun n t g => ∃ i : Nat, t 1 = u ∧ t 2 = .ptr bc 0 ∧ t 8 = u ∧ t 9 = I l.length ∧ t 10 = I i ∧ i + n = l.length ∧ due s l = dueF s (prevOf l i) (l.drop i) ∧ Ext [] h g ∧ Ob g bc [v])
    (Q := fun pp g => Ext [] h g ∧ ((pp.1 = .exit 0 ∧ due s l = true) ∨ (pp.1 = .ret ∧ pp.2 4 = .bool false ∧ due s l = false))) ?_ l.length _ _ ?_) ?_
  · rintro n t g ⟨i, t1, t2, t8, t9, t10, hi, hd, x, og⟩
    refine Tells.prot fun Q2 hQ2 => ?_
    unfold L_clock_Clock_Due_1
    simp [t9, t10]
    refine Tells.cb (fun hc => ?_) (fun hc => ?_)
    · simp at hc
      obtain ⟨⟨a, n'⟩, hdi⟩ : ∃ d, l[i]? = some d := ⟨_, List.getElem?_eq_getElem hc⟩
      rw [dueF_at hdi] at hd
      obtain ⟨b, pp, B, q1, q2, q3, q4, q5⟩ := pair_at (ou.ext x) hdi
      have w : IntKind.i64.wrap ((i : Int) + 1) = i + 1 := wrap_id (by omega) (by omega)
      simp [J_clock_Clock_Due_2, t8, t10, q1, q2, q3]
      refine Tells.newSt (by rfl) (by rfl) (by rfl) (by rfl) fun h2 b2 o2 x2 l2 => ?_
      have og2 := og.e x2
      have x02 := x.trans x2
      -- what comes behind the order
      have rest : ∀ t' : T, t' 1 = u → t' 2 = .ptr bc 0 → t' 6 = .ptr b2 0 → t' 8 = u → t' 9 = I l.length → t' 10 = I i → (match prevOf l i with | some b => decide (b < a) | none => true) = true →
          Tells (fun m => J_clock_Clock_Due_4 Try.prog (acallX Try.prog X m) m (blkK 1 (sqK (J_clock_Clock_Due_3 Try.prog (acallX Try.prog X m) m okK) okK)) t' h2) Q2 := by
        intro t' e1 e2 e6 e8 e9 e10 ep
        rw [ep] at hd
        unfold J_clock_Clock_Due_4
        simp [e2, e6, og2.1, o2.1]
        refine Tells.bind (clock_find hX (o.ext x02) hl a) ?_
        rintro _ h3 ⟨rfl, x3⟩
        have og3 := og2.e x3
        have o3 := o2.e x3
        have x03 := x02.trans x3
        by_cases hh : has s a = true
        · obtain ⟨i1, i2⟩ := has_idx hh
          obtain ⟨b', p', B', k1, k2, k3, k4, k5⟩ := pair_at (o.ext x03) i2
          have hf : fnd s a = idx s a := by simp [fnd, hh]
          simp [hf, og3.1, k1, k2, k5, o3.1]
          by_cases hn : nxt s a = n'
          · simp [hn, J_clock_Clock_Due_3, e10, w]
            refine Tells.ok (hQ2 _ _ (.inl ⟨rfl, n - 1, by omega, i + 1, by simp [e1], by simp [e2], by simp [e8], by simp [e9], by simp, by omega, ?_, x03, og3⟩))
            rw [hd]
            simp [hn, prevOf, hdi]
          · have : (nxt s a != n') = true := by simp [hn]
            simp [this]
            exact Tells.ok (hQ2 _ _ (.inr ⟨by simp, x03, .inr ⟨rfl, by simp, by rw [hd]; simp [hh, hn]⟩⟩))
        · have hh : has s a = false := by simpa using hh
          have hf : fnd s a = -1 := by simp [fnd, hh]
          simp [hf, J_clock_Clock_Due_3, e10, w]
          refine Tells.ok (hQ2 _ _ (.inl ⟨rfl, n - 1, by omega, i + 1, by simp [e1], by simp [e2], by simp [e8], by simp [e9], by simp, by omega, ?_, x03, og3⟩))
          rw [hd]
          simp [hh, prevOf, hdi]
      cases i with
      | zero =>
        simp
        exact rest _ (by simp [t1]) (by simp [t2]) (by simp) (by simp [t8]) (by simp [t9]) (by simpa using t10) rfl
      | succ j =>
        obtain ⟨⟨a0, n0⟩, hdj⟩ : ∃ d, l[j]? = some d := ⟨_, List.getElem?_eq_getElem (by omega)⟩
        obtain ⟨b', p', B', k1, k2, k3, k4, k5⟩ := pair_at (ou.ext x02) hdj
        have pos : (0 : Int) < (j : Int) + 1 := by omega
        have wj : IntKind.i64.wrap (j : Int) = j := wrap_id (by omega) (by omega)
        have ep : prevOf l (j + 1) = some a0 := by simp [prevOf, hdj]
        simp [pos, wj, t1, k1, k2, k4, o2.1]
        by_cases hlt : a0 < a
        · have : ¬ a ≤ a0 := by omega
          simp [this]
          exact rest _ (by simp [t1]) (by simp [t2]) (by simp) (by simp [t8]) (by simp [t9]) (by simpa using t10) (by rw [ep]; simp [hlt])
        · have : a ≤ a0 := by omega
          simp [this]
          exact Tells.ok (hQ2 _ _ (.inr ⟨by simp, x02, .inr ⟨rfl, by simp, by rw [hd, ep]; simp [hlt]⟩⟩))
    · simp at hc
      refine Tells.ok (hQ2 _ _ (.inr ⟨by simp, x, .inl ⟨rfl, ?_⟩⟩))
      rw [hd, List.drop_eq_nil_of_le (by omega)]
      rfl
  · exact ⟨0, by simp, by simp, by simp, by simp, by simp, by omega, by simp [due, prevOf], x1, oc⟩
  · rintro ⟨ex, t⟩ g ⟨x, ⟨rfl, q⟩ | ⟨rfl, q, q'⟩⟩
    · simp [J_clock_Clock_Due_0]
      exact Tells.ok (hQ _ _ ⟨by rw [q], x⟩)
    · simp only at q
      simp [q]
      exact Tells.ok (hQ _ _ ⟨by rw [q'], x⟩)

theorem bumps_take_succ {s : Slots} {l : List (Int × Int)} {i : Nat} {a n : Int} (h : l[i]? = some (a, n)) : bumps s (l.take (i + 1)) = bump (bumps s (l.take i)) a := by
  unfold bumps
  rw [List.take_add_one, h]
  simp

/-- Places, as they are. -/
theorem bump_places : ∀ (s : Slots) (p : Int), (bump s p).map (·.1) = s.map (·.1)
  | [], _ => rfl
  | (q, n) :: r, p => by
    by_cases e : q = p
    · simp [bump, e]
    · simp [bump, e, bump_places r p]
theorem has_places (s : Slots) (p : Int) : has s p = (s.map (·.1)).any (· == p) := by
  unfold has; rw [List.any_map]; rfl
theorem idx_places : ∀ {s r : Slots} {p : Int}, s.map (·.1) = r.map (·.1) → idx s p = idx r p
  | [], [], _, _ => rfl
  | (q, n) :: s, (q', n') :: r, p, h => by
    simp at h
    obtain ⟨rfl, h⟩ := h
    simp only [idx]
    rw [idx_places (by simpa using h)]
  | [], _ :: _, _, h => by simp at h
  | _ :: _, [], _, h => by simp at h
theorem bumps_places (s : Slots) : ∀ (l : List (Int × Int)), (bumps s l).map (·.1) = s.map (·.1) := by
  intro l
  unfold bumps
  induction l generalizing s with
  | nil => rfl
  | cons x r ih => rw [List.foldl_cons, ih, bump_places]
theorem bumps_length (s : Slots) (l : List (Int × Int)) : (bumps s l).length = s.length := by
  have := congrArg List.length (bumps_places s l)
  simpa using this
theorem take_places (s : Slots) (l : List (Int × Int)) : (take s l).map (·.1) = s.map (·.1) := by
  unfold take
  split
  · exact bumps_places s l
  · rfl
theorem take_length (s : Slots) (l : List (Int × Int)) : (take s l).length = s.length := by
  have := congrArg List.length (take_places s l)
  simpa using this
/-- Next numbers up to k. -/
def Small (s : Slots) (k : Int) : Prop := ∀ x, x ∈ s → -k ≤ x.2 ∧ x.2 ≤ k
theorem Small.bump {s : Slots} {k : Int} (h : Small s k) (hk : 0 ≤ k) (p : Int) : Small (bump s p) (k + 1) := by
  induction s with
  | nil => intro x hx; simp [Go.Proofs.Ytbpbdigehfkjjaa.bump] at hx
  | cons y r ih =>
    obtain ⟨q, n⟩ := y
    have h1 := h (q, n) (by simp)
    have h2 : Small r k := fun x hx => h x (by simp [hx])
    intro x hx
    by_cases e : q = p
    · simp only [Go.Proofs.Ytbpbdigehfkjjaa.bump, if_pos e] at hx
      rcases List.mem_cons.1 hx with rfl | hx
      · simp at h1 ⊢; omega
      · have := h2 x hx; omega
    · simp only [Go.Proofs.Ytbpbdigehfkjjaa.bump, if_neg e] at hx
      rcases List.mem_cons.1 hx with rfl | hx
      · simp at h1 ⊢; omega
      · exact ih h2 x hx
theorem Small.bumps {s : Slots} {k : Int} (hk : 0 ≤ k) (h : Small s k) : ∀ l : List (Int × Int), Small (bumps s l) (k + l.length) := by
  intro l
  unfold Go.Proofs.Ytbpbdigehfkjjaa.bumps
  induction l generalizing s k with
  | nil => simpa using h
  | cons x r ih =>
    rw [List.foldl_cons]
    have := ih (by omega) (h.bump hk x.1)
    intro y hy
    have := this y hy
    simp at this ⊢; omega
theorem Small.nxt {s : Slots} {k : Int} (h : Small s k) (hk : 0 ≤ k) (p : Int) : -k ≤ nxt s p ∧ nxt s p ≤ k := by
  cases hh : has s p with
  | false => rw [not_has_nxt hh]; omega
  | true =>
    obtain ⟨_, i2⟩ := has_idx hh
    exact h _ (List.mem_of_getElem? i2)

end
end Go.Proofs.Ytbpbdigehfkjjaa

/-! What clock's Take, Own and New tell. -/
namespace Go.Proofs.Ytbpbdigehfkjjaa
open Go.Ab

section
variable {X : XTab}

theorem clock_Take (hX : OnlyKnown X) {h : Heap} {v u : AVal} {s : Slots} {l : List (Int × Int)} (o : Sl pairR h v s) (hl : s.length < 2 ^ 30) (ou : Sl pairR h u l) (hu : l.length < 2 ^ 30) {K : Int} (hK : 0 ≤ K ∧ K < 2 ^ 61) (hs : Small s K) :
    Tells (fun q => acallX Try.prog X q F_clock_Clock_Take [.agg [v], u] h) fun a h' => ∃ v', a = .agg [v'] ∧ Sl pairR h' v' (take s l) ∧ Ext [] h h' := by
  refine R_clock_Clock_Take _ _ (hX _ _ rfl) ?_
  refine Tells.prot fun Q' hQ => ?_
  unfold S_clock_Clock_Take
  simp
  refine Tells.box rfl rfl fun h1 bc oc x1 l1 => ?_
  try simp
  refine Tells.new fun h2 bv ov x2 l2 => ?_
  have oc2 := oc.e x2
  have x12 := x1.trans x2
  have o2 := o.ext x12
  have ou2 := ou.ext x12
  simp [oc2.1]
  refine Tells.bind (clock_Due hX o2 (by omega) ou2 (by omega)) ?_
  rintro _ h3 ⟨rfl, x3⟩
  have oc3 := oc2.e x3
  have ov3 := ov.e x3
  have x13 := x12.trans x3
  have hcv : bc ≠ bv := by have := oc.lt; omega
  by_cases hd : due s l = true
  · simp [hd, J_clock_Clock_Take_0, oc3.1]
    refine Tells.copy (r := pairR) (o2.ext x3) (by rfl) (by omega) (by decide) fun s' h4 g4 x4 w4 => ?_
    have oc4 := oc3.e x4
    have ov4 := ov3.e x4
    simp [bldR, fillR, splice, g4.1.known, g4.1.cells]
    refine Tells.newSt (by rfl) (by rfl) (by rfl) (by simp [g4.1.one]) fun h5 bo oo x5 l5 => ?_
    have oc5 := oc4.e x5
    have ov5 := ov4.e x5
    have x45 := x4.trans x5
    have x05 := x13.trans x45
    simp [ou.len]
    refine Tells.bind (Tells.loop (fun n t g => ∃ i : Nat, t 2 = .ptr bc 0 ∧ t 4 = .ptr bv 0 ∧ t 5 = .ptr bo 0 ∧ t 18 = u ∧ t 19 = I l.length ∧ t 20 = I i ∧ i + n = l.length ∧ Ext [] h3 g ∧ Ob g bc [v] ∧ Ob g bv [.nils] ∧ Ob g bo [s'] ∧ Wr h3 g s' ∧ Sl pairR g s' (bumps s (l.take i)))
      (Q := fun p g => p.1 = .exit 0 ∧ p.2 4 = .ptr bv 0 ∧ p.2 5 = .ptr bo 0 ∧ Ext [] h3 g ∧ Ob g bv [.nils] ∧ Ob g bo [s'] ∧ Sl pairR g s' (bumps s l)) ?_ l.length _ _ ?_) ?_
    · rintro n t g ⟨i, t2, t4, t5, t18, t19, t20, hi, x, ac, av, ao, wr, sl⟩
      refine Tells.prot fun Q2 hQ2 => ?_
      unfold L_clock_Clock_Take_2
      simp [t19, t20]
      refine Tells.cb (fun hc => ?_) (fun hc => ?_)
      · simp at hc
        obtain ⟨⟨a, n'⟩, hdi⟩ : ∃ d, l[i]? = some d := ⟨_, List.getElem?_eq_getElem hc⟩
        obtain ⟨b, pp, B, q1, q2, q3, q4, q5⟩ := pair_at ((ou2.ext x3).ext x) hdi
        have w : IntKind.i64.wrap ((i : Int) + 1) = i + 1 := wrap_id (by omega) (by omega)
        simp [J_clock_Clock_Take_3, t18, t20, q1, q2, q3]
        refine Tells.newSt (by rfl) (by rfl) (by rfl) (by rfl) fun h6 bs os x6 l6 => ?_
        have ac6 := ac.e x6
        simp [t2, ac6.1, os.1]
        refine Tells.bind (clock_find hX (((o2.ext x3).ext x).ext x6) (by omega) a) ?_
        rintro _ h7 ⟨rfl, x7⟩
        have x67 := x6.trans x7
        have ao7 := ao.e x67
        have sl7 := sl.ext x67
        have wr7 := wr.ext x67
        have x07 := x.trans x67
        by_cases hh : has s a = true
        · have hh' : has (bumps s (l.take i)) a = true := by rw [has_places, bumps_places, ← has_places]; exact hh
          obtain ⟨i1, i2⟩ := has_idx hh'
          have hix : idx (bumps s (l.take i)) a = idx s a := idx_places (bumps_places s _)
          have hf : fnd s a = idx (bumps s (l.take i)) a := by rw [hix]; simp [fnd, hh]
          have sm := (hs.bumps hK.1 (l.take i)).nxt (by omega) a
          have lt : (l.take i).length ≤ 2 ^ 30 := by simp; omega
          have wn : IntKind.i64.wrap (nxt (bumps s (l.take i)) a + 1) = nxt (bumps s (l.take i)) a + 1 := wrap_id (by omega) (by omega)
          obtain ⟨b', p', B', c', k1, k2, k3, k4⟩ := sl7.poke (n := 2) rfl (fun q => q) wr7 x07 i2
          have k3 : c' = [I a, I (nxt (bumps s (l.take i)) a)] := k3
          subst k3
          have k5 := k2.cell (k := 1) (by simp)
          obtain ⟨h8, e8, x8, w8, s8, _, _, ob8⟩ := k4 1 (I (nxt (bumps s (l.take i)) a + 1)) (a, nxt (bumps s (l.take i)) a + 1) (by omega) rfl rfl rfl
          simp [hf, t5, ao7.1, k1, k2.get, k5, wn, e8, J_clock_Clock_Take_4, t20, w]
          refine Tells.ok (hQ2 _ _ (.inl ⟨rfl, n - 1, by omega, i + 1, by simp [t2], by simp [t4], by simp [t5], by simp [t18], by simp [t19], by simp, by omega, x8, ob8 _ _ (ac6.e x7), ob8 _ _ ((av.e x6).e x7), ob8 _ _ ao7, w8, ?_⟩))
          rw [bumps_take_succ hdi, bump_set hh']
          exact s8
        · have hh : has s a = false := by simpa using hh
          have hf : fnd s a = -1 := by simp [fnd, hh]
          have hh' : has (bumps s (l.take i)) a = false := by rw [has_places, bumps_places, ← has_places]; exact hh
          simp [hf, J_clock_Clock_Take_4, t20, w]
          refine Tells.ok (hQ2 _ _ (.inl ⟨rfl, n - 1, by omega, i + 1, by simp [t2], by simp [t4], by simp [t5], by simp [t18], by simp [t19], by simp, by omega, x07, ac6.e x7, (av.e x6).e x7, ao7, wr7, ?_⟩))
          rw [bumps_take_succ hdi, not_has_bump hh']
          exact sl7
      · simp at hc
        refine Tells.ok (hQ2 _ _ (.inr ⟨by simp, rfl, by simp [t4], by simp [t5], x, av, ao, ?_⟩))
        rw [List.take_of_length_le (by omega)] at sl
        exact sl
    · exact ⟨0, by simp, by simp, by simp, by simp, by simp, by simp, by omega, x45, oc5, ov5, oo, w4.ext x5, by simpa [bumps] using g4.1.ext x5⟩
    · rintro ⟨ex, t⟩ g ⟨rfl, t4, t5, x, av, ao, sl⟩
      simp only at t4 t5
      simp [J_clock_Clock_Take_1, t5, ao.1, t4]
      refine Tells.stN av (by rfl) (by rfl) (by simp [sl.one]) (by rfl) fun h9 o9 x9 => ?_
      simp [t4, C_clock_Clock_Take_0, o9.1]
      refine Tells.ok (hQ _ _ ⟨s', rfl, ?_, (x13.trans x).then x9 (by simp; have := x1.next; omega)⟩)
      unfold take
      rw [if_pos hd]
      exact sl.ext x9
  · have hd : due s l = false := by simpa using hd
    simp [hd, oc3.1]
    refine Tells.stN ov3 (by rfl) (by rfl) (by simp [o.one]) (by rfl) fun h9 o9 x9 => ?_
    simp [C_clock_Clock_Take_0, o9.1]
    refine Tells.ok (hQ _ _ ⟨v, rfl, ?_, x13.then x9 (by simp; have := x1.next; omega)⟩)
    unfold take
    rw [if_neg (by rw [hd]; simp)]
    exact (o2.ext x3).ext x9

theorem clock_Own (hX : OnlyKnown X) {h : Heap} {v : AVal} {s : Slots} (o : Sl pairR h v s) (hl : s.length < 2 ^ 30) :
    Tells (fun q => acallX Try.prog X q F_clock_Clock_Own [.agg [v]] h) fun a h' => Gl intR h h' a (s.map (·.1)) ∧ Wr h h' a ∧ Ext [] h h' := by
  refine R_clock_Clock_Own _ (hX _ _ rfl) ?_
  refine Tells.prot fun Q' hQ => ?_
  unfold S_clock_Clock_Own
  simp
  refine Tells.box rfl rfl fun h1 b1 o1 x1 l1 => ?_
  simp [o1.1, o.len]
  refine Tells.bind (Tells.loop (fun n t g => ∃ i : Nat, t 7 = v ∧ t 8 = I s.length ∧ t 9 = I i ∧ i + n = s.length ∧ Gl intR h g (t 3) ((s.take i).map (·.1)) ∧ Wr h g (t 3) ∧ Ext [] h g)
    (Q := fun p g => p.1 = .exit 0 ∧ Gl intR h g (p.2 3) (s.map (·.1)) ∧ Wr h g (p.2 3) ∧ Ext [] h g) ?_ s.length _ _ ?_) ?_
  · rintro n t g ⟨i, t7, t8, t9, hi, go, wr, x⟩
    refine Tells.prot fun Q2 hQ2 => ?_
    unfold L_clock_Clock_Own_1
    simp [t8, t9]
    refine Tells.cb (fun hc => ?_) (fun hc => ?_)
    · simp at hc
      obtain ⟨⟨a, n'⟩, hdi⟩ : ∃ d, s[i]? = some d := ⟨_, List.getElem?_eq_getElem hc⟩
      obtain ⟨b, pp, B, q1, q2, q3, q4, q5⟩ := pair_at (o.ext x) hdi
      have w : IntKind.i64.wrap ((i : Int) + 1) = i + 1 := wrap_id (by omega) (by omega)
      simp [J_clock_Clock_Own_2, t7, t9, q1, q2, q3]
      refine Tells.newSt (by rfl) (by rfl) (by rfl) (by rfl) fun h2 b2 o2 x2 l2 => ?_
      simp [o2.1]
      refine Tells.app1W (go.e x2) (wr.ext x2) (by rfl) (by rfl) (show intR.rep h2 [I a] a from rfl) (by rfl) (by rfl) (by simp; omega) (by decide) (Nat.le_trans x.next x2.next) fun s3 h3 g3 w3 x3 y3 z3 => ?_
      simp [J_clock_Clock_Own_3, t9, w]
      have : s.take (i + 1) = s.take i ++ [(a, n')] := by rw [List.take_add_one, hdi]; rfl
      exact Tells.ok (hQ2 _ _ (.inl ⟨rfl, n - 1, by omega, i + 1, by simp [t7], by simp [t8], by simp, by omega, by rw [this]; simpa using g3, by simpa using w3, y3 _ (x.trans x2)⟩))
    · simp at hc
      rw [List.take_of_length_le (by omega)] at go
      exact Tells.ok (hQ2 _ _ (.inr ⟨by simp, rfl, by simpa using go, by simpa using wr, x⟩))
  · exact ⟨0, by simp, by simp, by simp, by omega, by simpa using Gl.nil, fun b hb => by simp [AVal.blks] at hb, x1⟩
  · rintro ⟨ex, t⟩ g ⟨rfl, go, wr, x⟩
    simp [J_clock_Clock_Own_0]
    exact Tells.ok (hQ _ _ ⟨go, wr, x⟩)

/-- How many slots lie below a place, from the first one on. -/
def below : Slots → Int → Nat
  | [], _ => 0
  | (q, _) :: r, p => if q < p then below r p + 1 else 0
def ins (s : Slots) (p : Int) : Slots := if p < 0 ∨ (s[below s p]?).map (·.1) = some p then s else s.take (below s p) ++ [(p, 1)] ++ s.drop (below s p)
def newS (ps : List Int) : Slots := ps.foldl ins []
theorem below_le : ∀ (s : Slots) (p : Int), below s p ≤ s.length
  | [], _ => Nat.le_refl _
  | (q, _) :: r, p => by
    simp only [below]
    split
    · have := below_le r p; simp; omega
    · simp
theorem below_drop {s : Slots} {i : Nat} {q n p : Int} (h : s[i]? = some (q, n)) : below (s.drop i) p = if q < p then below (s.drop (i + 1)) p + 1 else 0 := by
  have hlt := (List.getElem?_eq_some_iff.1 h).1
  rw [List.drop_eq_getElem_cons hlt, (List.getElem?_eq_some_iff.1 h).2]
  rfl
theorem ins_length (s : Slots) (p : Int) : (ins s p).length ≤ s.length + 1 := by
  unfold ins
  have := below_le s p
  split
  · omega
  · simp; omega
theorem newS_succ {ps : List Int} {i : Nat} {p : Int} (h : ps[i]? = some p) : newS (ps.take (i + 1)) = ins (newS (ps.take i)) p := by
  unfold newS
  rw [List.take_add_one, h]
  simp
theorem newS_length : ∀ (ps : List Int), (newS ps).length ≤ ps.length := by
  intro ps
  have gen : ∀ (ps : List Int) (s : Slots), (ps.foldl ins s).length ≤ s.length + ps.length := by
    intro ps
    induction ps with
    | nil => intro s; simp
    | cons p r ih => intro s; rw [List.foldl_cons]; have := ih (ins s p); have := ins_length s p; simp; omega
  have := gen ps []
  unfold newS
  simpa using this

theorem Tells.appNWE {β : Type} {Q : β → Heap → Prop} {h : Heap} {call : Nat → FuncId → List AVal → Heap → Res AVal} {α : Type} {r : Rp α} {h0 : Heap} {xs ys : List α} {s v : AVal} {n by_ : Nat} {k : Nat → AVal → Heap → Res β} (g : Gl r h0 h s xs) (wr : Wr h0 h s) (o : Sl r h v ys) (hn : r.n = n) (hl : xs.length + ys.length ≤ 2 ^ 34)
    (hby : by_ ≤ 2 ^ 12) (hle : h0.next ≤ h.next) (q : ∀ s' h', Gl r h0 h' s' (xs ++ ys) → Wr h0 h' s' → Ext s.blks h h' → (∀ S, Ext S h0 h → Ext S h0 h') → (∀ b, b ∈ s'.blks → b ∈ s.blks ∨ h.next ≤ b) → Tells (fun m => k m s' h') Q) :
    Tells (fun m => arbE (appR n by_ h s v) (call m) (k m)) Q := by
  obtain ⟨s', h', q1, q2, q3, q4, q5⟩ := g.appN (by_ := by_) o hn hl hby hle
  simp only [q1, arbE_val]
  exact q s' h' q2 (appR_wr q1 wr hle) q3 q4 fun b hb => (q5 b hb).imp_right fun z => by omega

theorem newInner (hX : OnlyKnown X) {h : Heap} {t : T} {bc : Nat} {v : AVal} {s : Slots} {p : Int} (t3 : t 3 = .ptr bc 0) (t5 : t 5 = I p) (t6 : t 6 = I 0) (ob : Ob h bc [v]) (o : Sl pairR h v s) (hl : s.length < 2 ^ 30) :
    Tells (fun m => loopN (L_clock_New_6 Try.prog (acallX Try.prog X m) m) m t h) fun pp g => pp.1 = .exit 2 ∧ g = h ∧ pp.2 6 = I (below s p) ∧ ∀ j, j < 11 → j ≠ 6 → pp.2 j = t j := by
  refine Tells.loop (fun n t' g => ∃ i : Nat, t' 6 = I i ∧ (∀ j, j < 11 → j ≠ 6 → t' j = t j) ∧ i + n = s.length ∧ g = h ∧ below s p = i + below (s.drop i) p) ?_ s.length _ _ ?_
  · rintro n t' g ⟨i, e6, ej, hi, rfl, hb⟩
    refine Tells.prot fun Q2 hQ2 => ?_
    have e3 := ej 3 (by omega) (by omega)
    have e5 := ej 5 (by omega) (by omega)
    unfold L_clock_New_6
    simp [e6, e3, t3, ob.1, o.len]
    by_cases hc : i < s.length
    · obtain ⟨⟨q, n'⟩, hdi⟩ : ∃ d, s[i]? = some d := ⟨_, List.getElem?_eq_getElem hc⟩
      obtain ⟨b, pp, B, q1, q2, q3, q4, q5⟩ := pair_at o hdi
      have w : IntKind.i64.wrap ((i : Int) + 1) = i + 1 := wrap_id (by omega) (by omega)
      rw [below_drop hdi] at hb
      simp [hc, e3, t3, ob.1, q1, q2, q4, e5, t5]
      by_cases hq : q < p
      · rw [if_pos hq] at hb
        simp [hq, J_clock_New_7, e6, w]
        refine Tells.ok (hQ2 _ _ (.inl ⟨rfl, n - 1, by omega, i + 1, by simp, fun j h1 h2 => ?_, by omega, rfl, by omega⟩))
        simp only [upd]
        repeat (rw [if_neg (by omega)])
        exact ej j h1 h2
      · rw [if_neg hq] at hb
        simp [hq]
        refine Tells.ok (hQ2 _ _ (.inr ⟨by simp, rfl, rfl, by simp [e6, hb], fun j h1 h2 => ?_⟩))
        simp only [upd]
        repeat (rw [if_neg (by omega)])
        exact ej j h1 h2
    · simp [hc]
      refine Tells.ok (hQ2 _ _ (.inr ⟨by simp, rfl, rfl, ?_, fun j h1 h2 => ?_⟩))
      · rw [List.drop_eq_nil_of_le (by omega)] at hb
        simp [below] at hb
        simp [e6, hb]
      · simp only [upd]
        repeat (rw [if_neg (by omega)])
        exact ej j h1 h2
  · exact ⟨0, by simpa using t6, fun _ _ _ => rfl, by omega, rfl, by simp⟩

theorem clock_NewW (hX : OnlyKnown X) {h : Heap} {u : AVal} {ps : List Int} (ou : Sl intR h u ps) (hl : ps.length < 2 ^ 29) :
    Tells (fun q => acallX Try.prog X q F_clock_New [u] h) fun a h' => ∃ v', a = .agg [v'] ∧ Sl pairR h' v' (newS ps) ∧ Wr h h' v' ∧ Ext [] h h' := by
  refine R_clock_New _ (hX _ _ rfl) ?_
  refine Tells.prot fun Q' hQ => ?_
  unfold S_clock_New
  simp
  refine Tells.new fun h1 bv ov x1 l1 => ?_
  try simp
  refine Tells.new fun h2 bc oc x2 l2 => ?_
  have ov2 := ov.e x2
  have x12 := x1.trans x2
  have hvc : bv ≠ bc := by have := ov.lt; omega
  simp [ou.len]
  refine Tells.bind (Tells.loop (fun n t g => ∃ (i : Nat) (v : AVal), t 2 = .ptr bv 0 ∧ t 3 = .ptr bc 0 ∧ t 8 = u ∧ t 9 = I ps.length ∧ t 10 = I i ∧ i + n = ps.length ∧ Ob g bv [.nils] ∧ Ob g bc [v] ∧ Sl pairR g v (newS (ps.take i)) ∧ Wr h g v ∧ Ext [] h g)
    (Q := fun p g => p.1 = .exit 0 ∧ p.2 2 = .ptr bv 0 ∧ p.2 3 = .ptr bc 0 ∧ Ob g bv [.nils] ∧ ∃ v, Ob g bc [v] ∧ Sl pairR g v (newS ps) ∧ Wr h g v ∧ Ext [] h g) ?_ ps.length _ _ ?_) ?_
  · rintro n t g ⟨i, v, t2, t3, t8, t9, t10, hi, av, ac, sl, wv, x⟩
    refine Tells.prot fun Q2 hQ2 => ?_
    unfold L_clock_New_1
    simp [t9, t10]
    refine Tells.cb (fun hc => ?_) (fun hc => ?_)
    · simp at hc
      obtain ⟨p, hdi⟩ : ∃ d, ps[i]? = some d := ⟨_, List.getElem?_eq_getElem hc⟩
      obtain ⟨b, pp, B, q1, q2, q3⟩ := (ou.ext x).atI hdi
      have w : IntKind.i64.wrap ((i : Int) + 1) = i + 1 := wrap_id (by omega) (by omega)
      have ln := newS_length (ps.take i)
      have lt : (ps.take i).length ≤ i := by simp; omega
      have hsl : (newS (ps.take i)).length < 2 ^ 30 := by omega
      have hS := newS_succ hdi
      generalize newS (ps.take i) = s at sl hsl hS
      simp [J_clock_New_2, t8, t10, q1, q2, q3]
      refine Tells.bind (newInner (p := p) hX (by simp [t3]) (by simp) (by simp) ac sl hsl) ?_
      rintro ⟨ex, t'⟩ g' ⟨rfl, rfl, e6, ej⟩
      have e2 := ej 2 (by omega) (by omega)
      have e3 := ej 3 (by omega) (by omega)
      have e5 := ej 5 (by omega) (by omega)
      have e8 := ej 8 (by omega) (by omega)
      have e9 := ej 9 (by omega) (by omega)
      have e10 := ej 10 (by omega) (by omega)
      simp [t2, t3, t8, t9, t10] at e2 e3 e5 e6 e8 e9 e10
      -- nothing comes
      have stay : ∀ t2 : T, t2 2 = .ptr bv 0 → t2 3 = .ptr bc 0 → t2 8 = u → t2 9 = I ps.length → t2 10 = I i → ins s p = s → Tells (fun m => J_clock_New_3 Try.prog (acallX Try.prog X m) m okK t2 g') Q2 := by
        intro t2 k2 k3 k8 k9 k10 hins
        simp [J_clock_New_3, k10, w]
        exact Tells.ok (hQ2 _ _ (.inl ⟨rfl, n - 1, by omega, i + 1, v, by simp [k2], by simp [k3], by simp [k8], by simp [k9], by simp, by omega, av, ac, by rw [hS, hins]; exact sl, wv, x⟩))
      have come : ∀ t2 : T, t2 2 = .ptr bv 0 → t2 3 = .ptr bc 0 → t2 5 = I p → t2 6 = I (below s p) → t2 8 = u → t2 9 = I ps.length → t2 10 = I i → ins s p = s.take (below s p) ++ [(p, 1)] ++ s.drop (below s p) →
          Tells (fun m => J_clock_New_5 Try.prog (acallX Try.prog X m) m (blkK 1 (sqK (J_clock_New_3 Try.prog (acallX Try.prog X m) m okK) okK)) t2 g') Q2 := by
        intro t2 k2 k3 k5 k6 k8 k9 k10 hins
        have hb := below_le s p
        obtain ⟨v1, f1, s1, b1⟩ := sl.takeR (n := 2) rfl (hi := below s p) hb
        unfold J_clock_New_5
        simp [k3, ac.1, k6, f1]
        refine Tells.copy (r := pairR) s1 (by rfl) (by simp; omega) (by decide) fun v2 h3 g3 x3 w3 => ?_
        have ac3 := ac.e x3
        simp [k5, bldR, fillR, splice]
        refine Tells.litV (r := pairR) (xs := [(p, 1)]) (css := [[I p, I 1]]) (by rfl) ⟨rfl, trivial⟩ (by rfl) (by rfl) (bsl1_agg (by rfl) (by rfl)) fun v4 h4 g4 x4 _ => ?_
        have ac4 := ac3.e x4
        try simp
        refine Tells.appNWE (g3.e x4) (w3.ext x4) g4.1 (by rfl) (by simp; omega) (by decide) (Nat.le_trans x3.next x4.next) fun v5 h5 g5 w5 x5 y5 z5 => ?_
        have xg5 : Ext [] g' h5 := y5 [] (x3.trans x4)
        have ac5 := ac.e xg5
        have kk5 := ac5.kill (id := h3.next) (by rw [xg5.n0, ← x3.n0]; exact n0_le h3) (by have := ac3.lt; omega)
        have kk4 := ac4.kill (id := h3.next) (by rw [x4.n0]; exact n0_le h3) (by have := ac3.lt; omega)
        obtain ⟨v6, f6, s6, b6⟩ := (sl.ext xg5).dropR (n := 2) rfl (lo := below s p) hb
        simp [k3, kk5, kk4, k6, f6]
        refine Tells.appNWE g5 w5 s6 (by rfl) (by simp; omega) (by decide) xg5.next fun v7 h7 g7 w7 x7 y7 z7 => ?_
        have xg7 : Ext [] g' h7 := y7 [] xg5
        try simp [k3]
        refine Tells.st1E (ac.e xg7) g7.1.cells g7.1.one (by simp) fun h8 o8 x8 => ?_
        simp [J_clock_New_3, k10, w]
        refine Tells.ok (hQ2 _ _ (.inl ⟨rfl, n - 1, by omega, i + 1, v7, by simp [k2], by simp [k3], by simp [k8], by simp [k9], by simp, by omega, (av.e xg7).ext x8 (by simpa using hvc), by simpa using o8, ?_, (w7.ext x8).back x.next, (x.trans xg7).then x8 (by simp; have := x1.next; omega)⟩))
        rw [hS, hins]
        exact g7.1.ext x8
      simp [J_clock_New_4, e5]
      by_cases hp : p < 0
      · simp [hp]
        exact stay _ (by simp [e2]) (by simp [e3]) (by simp [e8]) (by simp [e9]) (by simp [e10]) (by unfold ins; rw [if_pos (.inl hp)])
      · simp [hp, e6, e3, ac.1, sl.len]
        by_cases hb : below s p < s.length
        · obtain ⟨⟨q, n'⟩, hdb⟩ : ∃ d, s[below s p]? = some d := ⟨_, List.getElem?_eq_getElem hb⟩
          obtain ⟨b', p', B', k1, k2, k3, k4, k5⟩ := pair_at sl hdb
          simp [hb, e3, ac.1, e6, k1, k2, k4, e5]
          by_cases hq : q = p
          · subst hq
            simp
            exact stay _ (by simp [e2]) (by simp [e3]) (by simp [e8]) (by simp [e9]) (by simp [e10]) (by unfold ins; rw [if_pos (.inr (by rw [hdb]; rfl))])
          · simp [beq_eq_false_iff_ne.2 hq]
            exact come _ (by simp [e2]) (by simp [e3]) (by simp [e5]) (by simp [e6]) (by simp [e8]) (by simp [e9]) (by simp [e10]) (by unfold ins; rw [if_neg (by rw [hdb]; simp; exact ⟨by omega, hq⟩)])
        · simp [hb]
          exact come _ (by simp [e2]) (by simp [e3]) (by simp [e5]) (by simp [e6]) (by simp [e8]) (by simp [e9]) (by simp [e10]) (by unfold ins; rw [if_neg (by rw [List.getElem?_eq_none (by omega)]; simp; omega)])
    · simp at hc
      rw [List.take_of_length_le (by omega)] at sl
      exact Tells.ok (hQ2 _ _ (.inr ⟨by simp, rfl, by simp [t2], by simp [t3], av, v, ac, sl, wv, x⟩))
  · exact ⟨0, .nils, by simp, by simp, by simp, by simp, by simp, by omega, ov2, oc, by simpa [newS] using Sl.nil, fun b hb => by simp [AVal.blks] at hb, x12⟩
  · rintro ⟨ex, t⟩ g ⟨rfl, t2, t3, av, v, ac, sl, wv, x⟩
    simp only at t2 t3
    simp [J_clock_New_0, t3, ac.1, t2]
    refine Tells.stN av (by rfl) (by rfl) (by simp [sl.one]) (by rfl) fun h9 o9 x9 => ?_
    simp [t2, C_clock_New_0, o9.1]
    exact Tells.ok (hQ _ _ ⟨v, rfl, sl.ext x9, wv.ext x9, x.then x9 (by simp; omega)⟩)
theorem clock_New (hX : OnlyKnown X) {h : Heap} {u : AVal} {ps : List Int} (ou : Sl intR h u ps) (hl : ps.length < 2 ^ 29) :
    Tells (fun q => acallX Try.prog X q F_clock_New [u] h) fun a h' => ∃ v', a = .agg [v'] ∧ Sl pairR h' v' (newS ps) ∧ Ext [] h h' := by
  exact (clock_NewW hX ou hl).mono fun _ _ ⟨v', e, sl, _, x⟩ => ⟨v', e, sl, x⟩

end
end Go.Proofs.Ytbpbdigehfkjjaa

/-! What precentorhand's Stamps tells; more of a clock's slots. -/
namespace Go.Proofs.Ytbpbdigehfkjjaa
open Go.Ab

theorem Feed.out {h : Heap} {bf k : Nat} {α : Type} {r : Rp α} {v : AVal} {xs : List α} (f : Feed h bf k) (o : Sl r h v xs) : bf ∉ v.blks := fun hb => by
  have := (o.blk bf hb).1
  rw [f.m] at this; cases this

theorem dueF_snoc {s : Slots} {a n : Int} : ∀ {l : List (Int × Int)} {p : Option Int}, (∀ x, x ∈ l → x.1 < a) → (∀ b, p = some b → b < a) → dueF s p (l ++ [(a, n)]) = (dueF s p l && (!has s a || decide (nxt s a = n)))
  | [], p, _, hp => by
    cases p with
    | none => simp [dueF]
    | some b => simp [dueF, hp b rfl]
  | (b, m) :: l, p, hl, hp => by
    have := dueF_snoc (s := s) (a := a) (n := n) (l := l) (p := some b) (fun x hx => hl x (by simp [hx])) (fun c hc => by cases hc; exact hl (b, m) (by simp))
    simp only [List.cons_append, dueF, this, Bool.and_assoc]
theorem due_snoc {s : Slots} {l : List (Int × Int)} {a n : Int} (hl : ∀ x, x ∈ l → x.1 < a) : due s (l ++ [(a, n)]) = (due s l && (!has s a || decide (nxt s a = n))) := dueF_snoc hl (fun _ h => by cases h)

section
variable {X : XTab}
theorem Stamps (hX : OnlyKnown X) {h : Heap} {bf k : Nat} (f : Feed h bf k) (hk : k + 9 < 2 ^ 62) :
    Tells (fun q => acallX Try.prog X q F_precentorhand_Feed_Stamps [.ptr bf 0] h) fun a h' => ∃ xs, Gl pairR h h' a xs ∧ Wr h h' a ∧ xs.length ≤ 4 ∧ due [] xs = true ∧ Small xs 10 ∧ Ext [bf] h h' ∧ Feed h' bf (k + 9) := by
  refine R_precentorhand_Feed_Stamps _ (hX _ _ rfl) ?_
  refine Tells.prot fun Q' hQ => ?_
  unfold S_precentorhand_Feed_Stamps
  simp
  refine Tells.bind (Next hX 5 ⟨by omega, by omega⟩ f (by omega)) ?_
  rintro _ h1 ⟨c, rfl, c0, c1, _, x1, f1⟩
  have c1 := c1 (by omega)
  try simp
  refine Tells.bind (Tells.loop (fun n t g => ∃ (i : Nat) (xs : List (Int × Int)) (a : Int), t 0 = .ptr bf 0 ∧ t 5 = I n ∧ t 4 = I a ∧ 0 ≤ a ∧ a ≤ 4 * i ∧ i + n ≤ 4 ∧ xs.length = i ∧ Gl pairR h g (t 3) xs ∧ Wr h g (t 3) ∧ due [] xs = true ∧ (∀ x, x ∈ xs → x.1 < a) ∧ Small xs 10 ∧ Ext [bf] h g ∧ Feed g bf (k + 1 + 2 * i))
    (Q := fun p g => p.1 = .exit 0 ∧ ∃ xs, Gl pairR h g (p.2 3) xs ∧ Wr h g (p.2 3) ∧ xs.length ≤ 4 ∧ due [] xs = true ∧ Small xs 10 ∧ Ext [bf] h g ∧ Feed g bf (k + 9)) ?_ c.toNat _ _ ?_) ?_
  · rintro n t g ⟨i, xs, a, t0, t5, t4, a0, a1, hi, hl, go, wr, hd, hx, sm, x, fg⟩
    refine Tells.prot fun Q2 hQ2 => ?_
    unfold L_precentorhand_Feed_Stamps_1
    simp [t5]
    refine Tells.cb (fun hc => ?_) (fun hc => ?_)
    · simp at hc
      simp [J_precentorhand_Feed_Stamps_2, t0, t4]
      refine Tells.bind (Next hX 4 ⟨by omega, by omega⟩ fg (by omega)) ?_
      rintro _ h2 ⟨u, rfl, u0, u1, _, x2, f2⟩
      have u1 := u1 (by omega)
      have w1 : IntKind.i64.wrap (a + u) = a + u := wrap_id (by omega) (by omega)
      simp [w1, t0]
      refine Tells.bind (Next hX 5 ⟨by omega, by omega⟩ f2 (by omega)) ?_
      rintro _ h3 ⟨r, rfl, r0, r1, _, x3, f3⟩
      have r1 := r1 (by omega)
      have w2 : IntKind.i64.wrap (1 + r) = 1 + r := wrap_id (by omega) (by omega)
      have w3 : IntKind.i64.wrap (a + u + 1) = a + u + 1 := wrap_id (by omega) (by omega)
      have w4 : IntKind.i64.wrap ((n : Int) - 1) = ((n - 1 : Nat) : Int) := by rw [wrap_id (by omega) (by omega)]; omega
      simp [w2, bldR, fillR, splice]
      have g3 : Gl pairR h h3 (t 3) xs := go.extO (x2.trans x3) (by simp [fg.m])
      have wr3 : Wr h h3 (t 3) := wr.ext (x2.trans x3)
      refine Tells.app1W g3 wr3 (by rfl) (by rfl) (show pairR.rep h3 [I (a + u), I (1 + r)] (a + u, 1 + r) from rfl) (by rfl) (by rfl) (by omega) (by decide) (Nat.le_trans x.next (Nat.le_trans x2.next x3.next)) fun s4 h4 g4 wr4 x4 y4 z4 => ?_
      have hxm : ∀ y, y ∈ xs → y.1 < a + u := fun y hy => by have := hx y hy; omega
      simp [w3, J_precentorhand_Feed_Stamps_3, t5, w4]
      refine Tells.ok (hQ2 _ _ (.inl ⟨rfl, n - 1, by omega, i + 1, xs ++ [(a + u, 1 + r)], a + u + 1, by simp [t0], by simp, by simp, by omega, by omega, by omega, by simp [hl], by simpa using g4, by simpa using wr4, ?_, ?_, ?_, y4 _ ((x.trans x2).trans x3), ?_⟩))
      · rw [due_snoc hxm, hd]; simp [has]
      · intro y hy
        rcases List.mem_append.1 hy with hy | hy
        · have := hxm y hy; omega
        · simp at hy; subst hy; simp; omega
      · intro y hy
        rcases List.mem_append.1 hy with hy | hy
        · exact sm y hy
        · simp at hy; subst hy; simp; omega
      · exact (f3.ext x4 (fg.out go.1)).mono (by omega)
    · simp at hc
      exact Tells.ok (hQ2 _ _ (.inr ⟨by simp, rfl, xs, by simpa using go, by simpa using wr, by omega, hd, sm, x, fg.mono (by omega)⟩))
  · exact ⟨0, [], 0, by simp, by simp; omega, by simp, by omega, by omega, by omega, rfl, by simpa using Gl.nil, fun b hb => by simp [AVal.blks] at hb, rfl, by simp, fun _ h => by simp at h, x1, f1.mono (by omega)⟩
  · rintro ⟨ex, t⟩ g ⟨rfl, xs, go, wr, hl, hd, sm, x, fg⟩
    simp [J_precentorhand_Feed_Stamps_0]
    exact Tells.ok (hQ _ _ ⟨xs, go, wr, hl, hd, sm, x, fg⟩)
end

theorem nxt_bump : ∀ {s : Slots} {p q : Int}, has s q = true → nxt (bump s p) q = nxt s q + if p = q then 1 else 0
  | [], _, _, h => by simp [has] at h
  | (a, n) :: r, p, q, h => by
    by_cases e : a = p
    · subst e
      by_cases e2 : a = q
      · simp [bump, nxt, e2]
      · simp [bump, nxt, e2]
    · by_cases e2 : a = q
      · subst e2
        have e3 : ¬ p = a := fun h => e h.symm
        simp [bump, nxt, e, e3]
      · have h' : has r q = true := by simpa [has, e2] using h
        have := nxt_bump (s := r) (p := p) h'
        simp [bump, nxt, e, e2, this]
theorem has_bump (s : Slots) (p q : Int) : has (bump s p) q = has s q := by rw [has_places, has_places, bump_places]
theorem has_bumps (s : Slots) (l : List (Int × Int)) (q : Int) : has (bumps s l) q = has s q := by rw [has_places, has_places, bumps_places]
theorem has_take (s : Slots) (l : List (Int × Int)) (q : Int) : has (take s l) q = has s q := by rw [has_places, has_places, take_places]
/-- How many have a place. -/
def many (l : List (Int × Int)) (q : Int) : Int := (l.countP fun x => x.1 == q : Nat)
theorem nxt_bumps : ∀ {l : List (Int × Int)} {s : Slots} {q : Int}, has s q = true → nxt (bumps s l) q = nxt s q + many l q
  | [], s, q, h => by simp [bumps, many]
  | x :: l, s, q, h => by
    have := nxt_bumps (l := l) (s := bump s x.1) (q := q) (by rw [has_bump]; exact h)
    simp only [bumps, List.foldl_cons] at this ⊢
    rw [this, nxt_bump h]
    simp only [many, List.countP_cons]
    by_cases e : x.1 = q
    · simp [e]; omega
    · simp [e]
theorem Small.take {s : Slots} {k : Int} (hk : 0 ≤ k) (h : Small s k) (l : List (Int × Int)) : Small (take s l) (k + l.length) := by
  unfold Go.Proofs.Ytbpbdigehfkjjaa.take
  split
  · exact h.bumps hk l
  · intro x hx; have := h x hx; omega
end Go.Proofs.Ytbpbdigehfkjjaa

/-! Events: their form, the feed's, when two are the same. -/
namespace Go.Proofs.Ytbpbdigehfkjjaa
open Go.Ab

/-- An event: client, broker, number, epoch, place; attributes; stamps. -/
structure Ev where
  c : Int
  b : Int
  s : Int
  e : Int
  p : Int
  ats : List Att
  sts : List (Int × Int)
def evC (x : Ev) (va vs : AVal) : List AVal := [I x.c, I x.b, I x.s, I x.e, I x.p, va, vs]
/-- No block of v's is of a class that began ahead of K. -/
def UpK (K : Nat) (h : Heap) (v : AVal) : Prop := ∀ b, b ∈ v.blks → K ≤ h.root b ∧ h.n0 ≤ b ∧ b < h.next
theorem UpK.ext {S : List Nat} {K : Nat} {h h' : Heap} {v : AVal} (w : UpK K h v) (e : Ext S h h') : UpK K h' v := fun b hb => by
  obtain ⟨w1, w2, w3⟩ := w b hb
  exact ⟨by rw [root_ext e w3]; exact w1, by rw [e.n0]; exact w2, Nat.lt_of_lt_of_le w3 e.next⟩
theorem UpK.of {K : Nat} {h0 h : Heap} {v : AVal} (w : Wr h0 h v) (hK : K ≤ h0.next) : UpK K h v := fun b hb => ⟨Nat.le_trans hK (w b hb).1, (w b hb).2⟩
def evR (K : Nat) : Rp Ev := ⟨7, by decide, fun h cs x => ∃ va vs, cs = evC x va vs ∧ Sl attrR h va x.ats ∧ Sl pairR h vs x.sts ∧ UpK K h va ∧ UpK K h vs, fun ⟨_, _, h, _, _⟩ => by rw [h]; rfl, fun ⟨_, _, h, a, b, _⟩ => by rw [h]; simp [evC, a.one, b.one],
  fun ⟨va, vs, h, a, b, c, d⟩ e => ⟨va, vs, h, a.ext e, b.ext e, c.ext e, d.ext e⟩⟩
/-- An event of the feed. -/
structure FedE (x : Ev) : Prop where
  c : 1 ≤ x.c ∧ x.c ≤ 6
  b : 0 ≤ x.b ∧ x.b < 8
  s : 1 ≤ x.s ∧ x.s ≤ 2 ^ 62
  e : 0 ≤ x.e ∧ x.e < 4
  p : 0 ≤ x.p ∧ x.p < 9
  ats : x.ats.length ≤ 5
  sts : x.sts.length ≤ 4
  sm : Small x.sts 10
def ev0 : Ev := ⟨0, 0, 0, 0, 0, [], []⟩

theorem ev_at {K : Nat} {h : Heap} {v : AVal} {es : List Ev} (o : Sl (evR K) h v es) {i : Nat} {x : Ev} (hx : es[i]? = some x) :
    ∃ b p B va vs, ixsR 7 v (.int .i64 (i : Int)) = some (.ptr b p) ∧ h.get b = some B ∧ p + 7 ≤ B.length ∧ (B.drop p).take 7 = evC x va vs ∧ Sl attrR h va x.ats ∧ Sl pairR h vs x.sts ∧ UpK K h va ∧ UpK K h vs ∧ B[p]? = some (I x.c) ∧ B[p + 2]? = some (I x.s) ∧ B[p + 5]? = some va ∧ B[p + 6]? = some vs := by
  obtain ⟨b, p, B, c, q1, e, va, vs, rfl, oa, os, ua, us⟩ := o.at (n := 7) rfl (i := (i : Int)) (by omega) (by simpa using hx)
  have l := e.le
  have e0 := e.eq
  simp only [evC, List.length_cons, List.length_nil] at l e0
  exact ⟨b, p, B, va, vs, q1, e.get, by omega, e0, oa, os, ua, us, e.cell0 (by simp [evC]), e.cell (k := 2) (by simp [evC]), e.cell (k := 5) (by simp [evC]), e.cell (k := 6) (by simp [evC])⟩

section
variable {X : XTab}
theorem EventH (hX : OnlyKnown X) {h : Heap} {bf k : Nat} (f : Feed h bf k) (hk : k < 2 ^ 59) :
    Tells (fun q => acallX Try.prog X q F_precentorhand_Feed_Event [.ptr bf 0] h) fun r h' => ∃ (x : Ev) (va vs : AVal), r = .agg (evC x va vs) ∧ FedE x ∧ Gl attrR h h' va x.ats ∧ Wr h h' va ∧ Gl pairR h h' vs x.sts ∧ Wr h h' vs ∧ (∃ hm, (∀ c, c ∈ va.blks → h'.root c < hm) ∧ UpK hm h' vs) ∧ Ext [bf] h h' ∧ Feed h' bf (k + 31) := by
  refine R_precentorhand_Feed_Event _ (hX _ _ rfl) ?_
  refine Tells.prot fun Q' hQ => ?_
  unfold S_precentorhand_Feed_Event
  try simp
  refine Tells.new fun h1 b0 o1 x1 l1 => ?_
  have f1 := f.e x1
  have hb0 : bf ≠ b0 := by have := f.lt; omega
  try simp
  refine Tells.bind (Next hX 6 ⟨by decide, by decide⟩ f1 (by omega)) ?_
  rintro _ h2 ⟨c, rfl, c0, c1, _, x2, f2⟩
  have c1 := c1 (by decide)
  have w1 : IntKind.i64.wrap (1 + c) = 1 + c := wrap_id (by omega) (by omega)
  simp [w1]
  refine Tells.bind (Next hX 8 ⟨by decide, by decide⟩ f2 (by omega)) ?_
  rintro _ h3 ⟨b, rfl, b0', b1, _, x3, f3⟩
  have b1 := b1 (by decide)
  try simp
  refine Tells.bind (Next hX 300 ⟨by decide, by decide⟩ f3 (by omega)) ?_
  rintro _ h4 ⟨s, rfl, s0, s1, _, x4, f4⟩
  have s1 := s1 (by decide)
  have w2 : IntKind.i64.wrap (1 + s) = 1 + s := wrap_id (by omega) (by omega)
  simp [w2]
  refine Tells.bind (Next hX 4 ⟨by decide, by decide⟩ f4 (by omega)) ?_
  rintro _ h5 ⟨e, rfl, e0, e1, _, x5, f5⟩
  have e1 := e1 (by decide)
  try simp
  refine Tells.bind (Next hX 9 ⟨by decide, by decide⟩ f5 (by omega)) ?_
  rintro _ h6 ⟨p, rfl, p0, p1, _, x6, f6⟩
  have p1 := p1 (by decide)
  try simp
  refine Tells.bind (AttrsW hX f6 (by omega)) ?_
  rintro va h7 ⟨ats, ga, wa, la, hs, hv, x7, f7⟩
  try simp
  refine Tells.bind (Stamps hX f7 (by omega)) ?_
  rintro vs h8 ⟨sts, gs, ws, ls, ds, sm, x8, f8⟩
  have x06 : Ext [bf] h h6 := ((((x1.of.trans x2).trans x3).trans x4).trans x5).trans x6
  have o8 := (((((((o1.ext x2 (by simpa using hb0.symm)).ext x3 (by simpa using hb0.symm)).ext x4 (by simpa using hb0.symm)).ext x5 (by simpa using hb0.symm)).ext x6 (by simpa using hb0.symm)).ext x7 (by simpa using hb0.symm)).ext x8 (by simpa using hb0.symm))
  have ga8 : Gl attrR h h8 va ats := (ga.extO x8 (by simpa using .inl f7.m)).back x06.next
  have wa8 : Wr h h8 va := (wa.ext x8).back x06.next
  have gs8 : Gl pairR h h8 vs sts := gs.back (x06.trans x7).next
  have ws8 : Wr h h8 vs := ws.back (x06.trans x7).next
  have hd : (∀ c, c ∈ va.blks → h8.root c < h7.next) ∧ UpK h7.next h8 vs := ⟨fun c hc => by have := (wa c hc).2.2; have := root_le h8 c; omega, ws⟩
  simp [bldR, fillR, splice, ga8.1.known, ga8.1.cells, gs8.1.known, gs8.1.cells]
  refine Tells.newSt (ds := [I (1 + c), I b, I (1 + s), I e, I p, va, vs]) (by rfl) (by rfl) (by rfl) (by simp [ga8.1.one, gs8.1.one]) fun h9 be oe x9 l9 => ?_
  have f9 := f8.e x9
  have o9 := o8.e x9
  have hbe : be ≠ bf := by have := f8.lt; omega
  have hb2 : be ≠ b0 := by have := o8.lt; omega
  try simp
  refine Tells.bind (Next hX 6 ⟨by decide, by decide⟩ f9 (by omega)) ?_
  rintro _ h10 ⟨z, rfl, z0, z1, _, x10, f10⟩
  have oe10 := oe.ext x10 (by simpa using hbe)
  have o10 := o9.ext x10 (by simpa using hb0.symm)
  have x08 : Ext [bf] h h8 := (x06.trans x7).trans x8
  have fin : ∀ (g : Heap) (t : T) (x : Ev) (K : Nat), t 2 = .ptr b0 0 → t 3 = .ptr be 0 → x.ats = ats → x.sts = sts → FedE x → Ob g be (evC x va vs) → Ob g b0 [I 0, I 0, I 0, I 0, I 0, .nils, .nils] → Gl attrR h g va ats → Wr h g va → Gl pairR h g vs sts → Wr h g vs → ((∀ c, c ∈ va.blks → g.root c < h7.next) ∧ UpK h7.next g vs) → Ext [bf] h g → Feed g bf K → K ≤ k + 31 → Tells (fun m => J_precentorhand_Feed_Event_0 Try.prog (acallX Try.prog X m) m (retK Try.prog [.cell 2 32]) t g) Q' := by
    intro g t x K t2 t3 e1 e2 fe oe o0 ga wa gs ws hd xg fg hK
    have hob : b0 ∉ va.blks := ga.1.ob o0
    have hob2 : b0 ∉ vs.blks := gs.1.ob o0
    simp [J_precentorhand_Feed_Event_0, t2, t3, oe.1, evC]
    refine Tells.stN o0 (ds := evC x va vs) (by rfl) (by rfl) (by simp [evC, ga.1.one, gs.1.one]) (by rfl) fun g2 o2 x2 => ?_
    simp [t2, C_precentorhand_Feed_Event_0, o2.1, evC]
    exact Tells.ok (hQ _ _ ⟨x, va, vs, rfl, fe, by rw [e1]; exact ga.ext x2 (fun b hb q => hob (by rw [← List.mem_singleton.1 q]; exact hb)), wa.ext x2, by rw [e2]; exact gs.ext x2 (fun b hb q => hob2 (by rw [← List.mem_singleton.1 q]; exact hb)), ws.ext x2, ⟨h7.next, fun c hc => by rw [root_ext x2 (wa c hc).2.2]; exact hd.1 c hc, hd.2.ext x2⟩, xg.then x2 fun w hw => .inr (by simp at hw; omega), (fg.ext x2 (by simpa using hb0)).mono hK⟩)
  have carry : ∀ {S : List Nat} {g : Heap}, Ext S h8 g → (∀ b, b ∈ S → h8.isM b = true ∨ h8.next ≤ b) → Gl attrR h g va ats ∧ Wr h g va ∧ Gl pairR h g vs sts ∧ Wr h g vs ∧ ((∀ c, c ∈ va.blks → g.root c < h7.next) ∧ UpK h7.next g vs) := fun x hS => ⟨ga8.extO x hS, wa8.ext x, gs8.extO x hS, ws8.ext x, fun c hc => by rw [root_ext x (wa8 c hc).2.2]; exact hd.1 c hc, hd.2.ext x⟩
  have x810 : Ext [bf] h8 h10 := x9.of.trans x10
  by_cases hz : z = 0
  · simp [hz]
    refine Tells.bind (Next hX 3 ⟨by decide, by decide⟩ f10 (by omega)) ?_
    rintro _ h11 ⟨y, rfl, y0, y1, _, x11, f11⟩
    have y1 := y1 (by decide)
    have w3 : IntKind.i64.wrap (4611686018427387904 - y) = 4611686018427387904 - y := wrap_id (by omega) (by omega)
    have oe11 := oe10.ext x11 (by simpa using hbe)
    have o11 := o10.ext x11 (by simpa using hb0.symm)
    simp [w3]
    refine Tells.st1 oe11 (by rfl) (by rfl) (by simp) fun h12 oe12 x12 => ?_
    have o12 := o11.ext x12 (by simpa using hb2.symm)
    have x812 : Ext [bf] h8 h12 := (x810.trans x11).then x12 fun w hw => .inr (by simp at hw; omega)
    obtain ⟨c1', c2', c3', c4', c5'⟩ := carry x812 (by simpa using .inl f8.m)
    try simp
    exact fin h12 _ ⟨1 + c, b, 4611686018427387904 - y, e, p, ats, sts⟩ (k + 31) (by simp) (by simp) rfl rfl ⟨by simp; omega, by simp; omega, by simp; omega, by simp; omega, by simp; omega, la, ls, sm⟩ oe12 o12 c1' c2' c3' c4' c5' (x08.trans x812) ((f11.ext x12 (by simpa using hbe.symm)).mono (by omega)) (Nat.le_refl _)
  · have hz' : (z == 0) = false := beq_eq_false_iff_ne.2 hz
    obtain ⟨c1', c2', c3', c4', c5'⟩ := carry x810 (by simpa using .inl f8.m)
    simp [hz']
    exact fin h10 _ ⟨1 + c, b, 1 + s, e, p, ats, sts⟩ (k + 31) (by simp) (by simp) rfl rfl ⟨by simp; omega, by simp; omega, by simp; omega, by simp; omega, by simp; omega, la, ls, sm⟩ oe10 o10 c1' c2' c3' c4' c5' (x08.trans x810) (f10.mono (by omega)) (Nat.le_refl _)
end
end Go.Proofs.Ytbpbdigehfkjjaa

/-! What hold's functions tell. -/
namespace Go.Proofs.Ytbpbdigehfkjjaa
open Go.Ab

/-- A hold: at most so many, its clock, what waits. -/
structure Hd (K : Nat) (h0 h : Heap) (b : Nat) (most : Int) (s : Slots) (es : List Ev) (vs vw : AVal) : Prop where
  ob : Ob h b [I most, vs, vw]
  sl : Sl pairR h vs s
  ev : Gl (evR K) h0 h vw es
  wr : Wr h0 h vw
theorem Hd.ext {S : List Nat} {K : Nat} {h0 h h' : Heap} {b : Nat} {most : Int} {s : Slots} {es : List Ev} {vs vw : AVal} (o : Hd K h0 h b most s es vs vw) (x : Ext S h h') (hb : b ∉ S) (hS : ∀ c, c ∈ S → h.isM c = true ∨ h.next ≤ c) : Hd K h0 h' b most s es vs vw :=
  ⟨o.ob.ext x hb, o.sl.ext x, o.ev.extO x hS, o.wr.ext x⟩
def heldE (es : List Ev) (x : Ev) : Bool := es.any fun y => y.c == x.c && y.s == x.s
def putE (most : Int) (es : List Ev) (x : Ev) : Int × List Ev := if heldE es x = true then (5, es) else if most ≤ (es.length : Int) then (6, es) else (0, es ++ [x])
/-- The place of the first event that is due. -/
def dueI (s : Slots) : List Ev → Option Nat
  | [] => none
  | x :: l => if due s x.sts = true then some 0 else (dueI s l).map (· + 1)
theorem heldE_drop {es : List Ev} {x y : Ev} {i : Nat} (h : es[i]? = some y) : heldE (es.drop i) x = ((y.c == x.c && y.s == x.s) || heldE (es.drop (i + 1)) x) := by
  have a := List.getElem?_eq_some_iff.1 h
  rw [List.drop_eq_getElem_cons a.1, a.2]
  rfl
theorem dueI_drop {s : Slots} {es : List Ev} {y : Ev} {i : Nat} (h : es[i]? = some y) : dueI s (es.drop i) = if due s y.sts = true then some 0 else (dueI s (es.drop (i + 1))).map (· + 1) := by
  have a := List.getElem?_eq_some_iff.1 h
  rw [List.drop_eq_getElem_cons a.1, a.2]
  rfl

section
variable {X : XTab}
theorem hold_New (hX : OnlyKnown X) {h : Heap} {u : AVal} {ps : List Int} (most : Int) (ou : Sl intR h u ps) (hl : ps.length < 2 ^ 29) (K : Nat) :
    Tells (fun q => acallX Try.prog X q F_hold_New [I most, u] h) fun a h' => ∃ b vs, a = .ptr b 0 ∧ Hd K h h' b most (newS ps) [] vs .nils ∧ Wr h h' vs ∧ Ext [] h h' ∧ h.next ≤ b := by
  refine R_hold_New _ _ (hX _ _ rfl) ?_
  refine Tells.prot fun Q' hQ => ?_
  unfold S_hold_New
  try simp
  refine Tells.bind (clock_NewW hX ou hl) ?_
  rintro _ h1 ⟨v, rfl, sl, w, x1⟩
  simp [bldR, fillR, splice, sl.known, sl.cells]
  refine Tells.box rfl rfl fun h2 b ob x2 l2 => ?_
  try simp
  exact Tells.ok (hQ _ _ ⟨b, v, rfl, ⟨ob, sl.ext x2, Gl.nil, fun b hb => by simp [AVal.blks] at hb⟩, w.ext x2, x1.trans x2, Nat.le_trans x1.next l2⟩)
theorem hold_clone (hX : OnlyKnown X) {h : Heap} {x : Ev} {va vs : AVal} (oa : Sl attrR h va x.ats) (os : Sl pairR h vs x.sts) (la : x.ats.length ≤ 2 ^ 30) (ls : x.sts.length ≤ 2 ^ 30) :
    Tells (fun q => acallX Try.prog X q F_hold_clone [.agg (evC x va vs)] h) fun a h' => ∃ va' vs', a = .agg (evC x va' vs') ∧ Sl attrR h' va' x.ats ∧ Sl pairR h' vs' x.sts ∧ Wr h h' va' ∧ Wr h h' vs' ∧ Ext [] h h' := by
  refine R_hold_clone _ (hX _ _ rfl) ?_
  refine Tells.prot fun Q' hQ => ?_
  unfold S_hold_clone
  try simp
  refine Tells.box (cs := evC x va vs) (by simp [evC, AVal.known, oa.known, os.known]) (by simp [evC, AVal.cells]) fun h1 be oe x1 l1 => ?_
  try simp
  refine Tells.new fun h2 b2 o2 x2 l2 => ?_
  have oe2 := oe.e x2
  have hne : be ≠ b2 := by have := oe.lt; omega
  simp [oe2.1, evC]
  have oa2 := oa.ext (x1.trans x2)
  refine Tells.copy oa2 (by rfl) (by omega) (by decide) fun v3 h3 g3 x3 w3 => ?_
  have oe3 := oe2.e x3
  try simp
  refine Tells.st1 oe3 g3.1.cells g3.1.one (by simp [evC]) fun h4 oe4 x4 => ?_
  have os4 := ((os.ext (x1.trans x2)).ext x3).ext x4
  simp [oe4.1, evC]
  refine Tells.copy os4 (by rfl) (by omega) (by decide) fun v5 h5 g5 x5 w5 => ?_
  have oe5 := oe4.e x5
  try simp
  refine Tells.st1 oe5 g5.1.cells g5.1.one (by simp [evC]) fun h6 oe6 x6 => ?_
  have o6 : Ob h6 b2 [I 0, I 0, I 0, I 0, I 0, .nils, .nils] := (((o2.e x3).ext x4 (by simpa using hne.symm)).e x5).ext x6 (by simpa using hne.symm)
  have a6 := (((g3.1.ext x4).ext x5).ext x6)
  have s6 := g5.1.ext x6
  simp [oe6.1, evC]
  refine Tells.stN o6 (ds := evC x v3 v5) (by rfl) (by rfl) (by simp [evC, a6.one, s6.one]) (by rfl) fun h7 o7 x7 => ?_
  simp [C_hold_clone_0, o7.1, evC]
  have e12 := x1.trans x2
  have nx := x1.next
  have e4 : Ext [] h h4 := (e12.trans x3).then x4 fun z hz => .inr (by simp at hz; omega)
  have e6 : Ext [] h h6 := (e4.trans x5).then x6 fun z hz => .inr (by simp at hz; omega)
  have e7 : Ext [] h h7 := e6.then x7 fun z hz => .inr (by simp at hz; omega)
  exact Tells.ok (hQ _ _ ⟨v3, v5, rfl, a6.ext x7, s6.ext x7, ((((w3.ext x4).ext x5).ext x6).ext x7).back e12.next, ((w5.ext x6).ext x7).back e4.next, e7⟩)
end
end Go.Proofs.Ytbpbdigehfkjjaa

/-! What hold.Put tells. -/
namespace Go.Proofs.Ytbpbdigehfkjjaa
open Go.Ab
section
variable {X : XTab}
theorem hold_Put (hX : OnlyKnown X) {K b : Nat} {most : Int} {s : Slots} {es : List Ev} {cv vw : AVal} {h0 h : Heap} (o : Hd K h0 h b most s es cv vw) (hK : K ≤ h.next) (hle : h0.next ≤ h.next) (hes : es.length < 2 ^ 30)
    {x : Ev} {va vs : AVal} (oa : Sl attrR h va x.ats) (os : Sl pairR h vs x.sts) (la : x.ats.length ≤ 2 ^ 30) (ls : x.sts.length ≤ 2 ^ 30) :
    Tells (fun q => acallX Try.prog X q F_hold_Hold_Put [.ptr b 0, .agg (evC x va vs)] h) fun a h' => a = I (putE most es x).1 ∧ (∃ vw', Hd K h0 h' b most s (putE most es x).2 cv vw') ∧ Ext (b :: vw.blks) h h' ∧ ∀ S, b ∈ S → Ext S h0 h → Ext S h0 h' := by
  refine R_hold_Hold_Put _ _ (hX _ _ rfl) ?_
  refine Tells.prot fun Q' hQ => ?_
  unfold S_hold_Hold_Put
  try simp
  refine Tells.box (cs := evC x va vs) (by simp [evC, AVal.known, oa.known, os.known]) (by simp [evC, AVal.cells]) fun h1 be oe x1 l1 => ?_
  have o1 := o.ob.e x1
  simp [o1.1, o.ev.1.len]
  refine Tells.bind (Tells.loop (fun n t g => ∃ i : Nat, t 0 = .ptr b 0 ∧ t 3 = .ptr be 0 ∧ t 10 = vw ∧ t 11 = I es.length ∧ t 12 = I i ∧ i + n = es.length ∧ Ob g be (evC x va vs) ∧ Ext [] h g ∧ heldE es x = heldE (es.drop i) x)
    (Q := fun p g => Ext [] h g ∧ ((p.1 = .exit 0 ∧ p.2 0 = .ptr b 0 ∧ p.2 3 = .ptr be 0 ∧ heldE es x = false ∧ Ob g be (evC x va vs)) ∨ (p.1 = .ret ∧ p.2 4 = I 5 ∧ heldE es x = true))) ?_ es.length _ _ ?_) ?_
  · rintro n t g ⟨i, t0, t3, t10, t11, t12, hi, oe, xg, hh⟩
    refine Tells.prot fun Q2 hQ2 => ?_
    unfold L_hold_Hold_Put_2
    simp [t11, t12]
    refine Tells.cb (fun hc => ?_) (fun hc => ?_)
    · simp at hc
      obtain ⟨y, hy⟩ : ∃ y, es[i]? = some y := ⟨_, List.getElem?_eq_getElem hc⟩
      obtain ⟨b1, p1, B1, va1, vs1, q1, q2, q3, q4, oa1, os1, _⟩ := ev_at (o.ev.1.ext xg) hy
      have w : IntKind.i64.wrap ((i : Int) + 1) = i + 1 := wrap_id (by omega) (by omega)
      rw [heldE_drop hy] at hh
      simp [J_hold_Hold_Put_3, t10, t12, q1, q2, q3, q4]
      refine Tells.newSt (ds := evC y va1 vs1) (by rfl) (by rfl) (by rfl) (by simp [evC, oa1.one, os1.one]) fun g1 bn on xn ln => ?_
      have oe1 := oe.e xn
      by_cases c1 : y.c = x.c
      · have c1' : (y.c == x.c) = true := by simp [c1]
        by_cases c2 : y.s = x.s
        · have c2' : (y.s == x.s) = true := by simp [c2]
          simp [on.1, oe1.1, t3, evC, c1, c2]
          exact Tells.ok (hQ2 _ _ (.inr ⟨by simp, xg.trans xn, .inr ⟨rfl, by simp, by rw [hh, c1', c2']; rfl⟩⟩))
        · have c2' : (y.s == x.s) = false := beq_eq_false_iff_ne.2 c2
          simp [on.1, oe1.1, t3, evC, c1, c2', J_hold_Hold_Put_4, t12, w]
          exact Tells.ok (hQ2 _ _ (.inl ⟨rfl, n - 1, by omega, i + 1, by simp [t0], by simp [t3], by simp [t10], by simp [t11], by simp, by omega, oe1, xg.trans xn, by rw [hh, c1', c2']; rfl⟩))
      · have c1' : (y.c == x.c) = false := beq_eq_false_iff_ne.2 c1
        simp [on.1, oe1.1, t3, evC, c1', J_hold_Hold_Put_4, t12, w]
        exact Tells.ok (hQ2 _ _ (.inl ⟨rfl, n - 1, by omega, i + 1, by simp [t0], by simp [t3], by simp [t10], by simp [t11], by simp, by omega, oe1, xg.trans xn, by rw [hh, c1']; rfl⟩))
    · simp at hc
      exact Tells.ok (hQ2 _ _ (.inr ⟨by simp, xg, .inl ⟨rfl, by simp [t0], by simp [t3], by rw [hh, List.drop_eq_nil_of_le (by omega)]; rfl, oe⟩⟩))
  · exact ⟨0, by simp, by simp, by simp, by simp, by simp, by omega, oe, x1, rfl⟩
  · rintro ⟨ex, t⟩ g ⟨xg, ⟨rfl, t0, t3, hh, oe⟩ | ⟨rfl, t4, hh⟩⟩
    · simp only at t0 t3
      have og := o.ob.e xg
      simp [J_hold_Hold_Put_0, t0, og.1, (o.ev.1.ext xg).len]
      refine Tells.cb (fun hc => ?_) (fun hc => ?_)
      · simp at hc
        have e : putE most es x = (6, es) := by simp [putE, hh, hc]
        refine Tells.ok (hQ _ _ ⟨by rw [e], ⟨vw, by rw [e]; exact o.ext xg (by simp) (by simp)⟩, xg.of, fun S hS k => k.quiet xg⟩)
      · simp at hc
        have e : putE most es x = (0, es ++ [x]) := by simp [putE, hh, show ¬ most ≤ (es.length : Int) by omega]
        simp [J_hold_Hold_Put_1, t0, t3, og.1, oe.1, evC]
        refine Tells.cbE (hold_clone hX (oa.ext xg) (os.ext xg) la ls) ?_
        rintro _ g2 ⟨va2, vs2, rfl, oa2, os2, wa2, ws2, x2⟩
        have xg2 := xg.trans x2
        have og2 := o.ob.e xg2
        simp [og2.1]
        have hre : (evR K).rep g2 (evC x va2 vs2) x := ⟨va2, vs2, rfl, oa2, os2, UpK.of wa2 (Nat.le_trans hK xg.next), UpK.of ws2 (Nat.le_trans hK xg.next)⟩
        refine Tells.app1WE (r := evR K) (o.ev.e xg2) (o.wr.ext xg2) (by simp [AVal.cells, evC]) (by simp [AVal.known, evC, oa2.known, os2.known]) hre (by rfl) (by rfl) (by omega) (by decide) (Nat.le_trans hle xg2.next) fun v3 h3 g3 w3 x3 y3 z3 => ?_
        have hbv : b ∉ vw.blks := o.ev.1.ob o.ob
        have og3 := og2.ext x3 hbv
        try simp [t0]
        refine Tells.st1E og3 g3.1.cells g3.1.one (by simp) fun h4 o4 x4 => ?_
        try simp
        have g4 : Gl (evR K) h0 h4 v3 (es ++ [x]) := g3.ext x4 fun c hc q => by
          have : b ∉ v3.blks := g3.1.ob og3
          exact this (by rw [← List.mem_singleton.1 q]; exact hc)
        refine Tells.ok (hQ _ _ ⟨by rw [e], ⟨v3, by rw [e]; exact ⟨o4, o.sl.ext xg2 |>.ext x3 |>.ext x4, g4, w3.ext x4⟩⟩, ?_, fun S hS k => ?_⟩)
        · exact ((xg2.of (S := vw.blks)).trans x3 |>.mono (fun z hz => List.mem_cons_of_mem _ hz)).then x4 fun z hz => .inl (by simp at hz; simp [hz])
        · exact (y3 S (k.quiet xg2)).then x4 fun z hz => .inl (by simp at hz; subst hz; exact hS)
    · simp only at t4
      simp [t4]
      have e : putE most es x = (5, es) := by simp [putE, hh]
      exact Tells.ok (hQ _ _ ⟨by rw [e], ⟨vw, by rw [e]; exact o.ext xg (by simp) (by simp)⟩, xg.of, fun S hS k => k.quiet xg⟩)
end
end Go.Proofs.Ytbpbdigehfkjjaa

/-! What hold.Next, Len and Clock tell. -/
namespace Go.Proofs.Ytbpbdigehfkjjaa
open Go.Ab
theorem dueI_lt {s : Slots} : ∀ {es : List Ev} {i : Nat}, dueI s es = some i → i < es.length
  | [], _, h => by simp [dueI] at h
  | x :: l, i, h => by
    simp only [dueI] at h
    split at h
    · cases h; simp
    · cases e : dueI s l with
      | none => rw [e] at h; cases h
      | some j => rw [e] at h; cases h; have := dueI_lt e; simp; omega
theorem dueI_due {s : Slots} : ∀ {es : List Ev} {i : Nat} {x : Ev}, dueI s es = some i → es[i]? = some x → due s x.sts = true
  | [], _, _, h, _ => by simp [dueI] at h
  | y :: l, i, x, h, hx => by
    simp only [dueI] at h
    split at h
    · cases h; simp at hx; subst hx; assumption
    · cases e : dueI s l with
      | none => rw [e] at h; cases h
      | some j => rw [e] at h; cases h; exact dueI_due e (by simpa using hx)
section
variable {X : XTab}
theorem hold_Next (hX : OnlyKnown X) {K b : Nat} {most : Int} {s : Slots} {es : List Ev} {cv vw : AVal} {h0 h : Heap} (o : Hd K h0 h b most s es cv vw) (hle : h0.next ≤ h.next) (hes : es.length < 2 ^ 30)
    (hsl : s.length < 2 ^ 30) (hst : ∀ x, x ∈ es → x.sts.length < 2 ^ 30) (hs : Small s (2 ^ 60)) :
    Tells (fun q => acallX Try.prog X q F_hold_Hold_Next [.ptr b 0] h) fun a h' => Ext (b :: vw.blks) h h' ∧ (∀ S, b ∈ S → Ext S h0 h → Ext S h0 h') ∧
      ((dueI s es = none ∧ a = .tup [.agg (evC ev0 .nils .nils), .bool false] ∧ Hd K h0 h' b most s es cv vw) ∨
       (∃ i x va vs, dueI s es = some i ∧ es[i]? = some x ∧ a = .tup [.agg (evC x va vs), .bool true] ∧ Sl attrR h' va x.ats ∧ Sl pairR h' vs x.sts ∧ ∃ cv' vw', Hd K h0 h' b most (take s x.sts) (es.take i ++ es.drop (i + 1)) cv' vw')) := by
  refine R_hold_Hold_Next _ (hX _ _ rfl) ?_
  refine Tells.prot fun Q' hQ => ?_
  unfold S_hold_Hold_Next
  try simp
  refine Tells.new fun h1 b2 o2 x1 l1 => ?_
  have ob1 := o.ob.e x1
  have hb2 : b ≠ b2 := by have := o.ob.lt; omega
  simp [ob1.1, o.ev.1.len]
  refine Tells.bind (Tells.loop (fun n t g => ∃ i : Nat, t 0 = .ptr b 0 ∧ t 2 = .ptr b2 0 ∧ t 9 = vw ∧ t 10 = I es.length ∧ t 11 = I i ∧ i + n = es.length ∧ Ob g b2 (evC ev0 .nils .nils) ∧ Ext [] h g ∧ h.next ≤ b2 ∧ dueI s es = (dueI s (es.drop i)).map (· + i))
    (Q := fun p g => p.2 2 = .ptr b2 0 ∧ ((p.1 = .exit 0 ∧ Ext [] h g ∧ h.next ≤ b2 ∧ dueI s es = none ∧ Ob g b2 (evC ev0 .nils .nils)) ∨ (p.1 = .ret ∧ p.2 3 = .bool true ∧ Ext (b :: vw.blks) h g ∧ (∀ S, b ∈ S → Ext S h0 h → Ext S h0 g) ∧
      ∃ i x va vs, dueI s es = some i ∧ es[i]? = some x ∧ Ob g b2 (evC x va vs) ∧ Sl attrR g va x.ats ∧ Sl pairR g vs x.sts ∧ ∃ cv' vw', Hd K h0 g b most (take s x.sts) (es.take i ++ es.drop (i + 1)) cv' vw'))) ?_ es.length _ _ ?_) ?_
  · rintro n t g ⟨i, t0, t2, t9, t10, t11, hi, o2, xg, l2, hd⟩
    refine Tells.prot fun Q2 hQ2 => ?_
    unfold L_hold_Hold_Next_1
    simp [t10, t11]
    refine Tells.cb (fun hc => ?_) (fun hc => ?_)
    · simp at hc
      obtain ⟨y, hy⟩ : ∃ y, es[i]? = some y := ⟨_, List.getElem?_eq_getElem hc⟩
      have hm := List.mem_of_getElem? hy
      obtain ⟨b1, p1, B1, va1, vs1, q1, q2, q3, q4, oa1, os1, ua1, us1, _⟩ := ev_at (o.ev.1.ext xg) hy
      have w : IntKind.i64.wrap ((i : Int) + 1) = i + 1 := wrap_id (by omega) (by omega)
      rw [dueI_drop hy] at hd
      simp [J_hold_Hold_Next_2, t9, t11, q1, q2, q3, q4]
      refine Tells.newSt (ds := evC y va1 vs1) (by rfl) (by rfl) (by rfl) (by simp [evC, oa1.one, os1.one]) fun g1 bn on xn ln => ?_
      have x1 := xg.trans xn
      have ob := o.ob.e x1
      simp [t0, ob.1, on.1, evC]
      refine Tells.cbE (clock_Due hX (o.sl.ext x1) (by omega) (os1.ext xn) (by have := hst y hm; omega)) ?_
      rintro _ g2 ⟨rfl, xd⟩
      have x2 := x1.trans xd
      have ob2 := o.ob.e x2
      have on2 := on.e xd
      have o22 := (o2.e xn).e xd
      cases c : due s y.sts with
      | false =>
        rw [c] at hd
        simp [J_hold_Hold_Next_3, t11, w]
        refine Tells.ok (hQ2 _ _ (.inl ⟨rfl, n - 1, by omega, i + 1, by simp [t0], by simp [t2], by simp [t9], by simp [t10], by simp, by omega, o22, x2, l2, ?_⟩))
        rw [hd]
        simp only [Bool.false_eq_true, if_false, Option.map_map]
        congr 1
        funext z
        simp
        omega
      | true =>
        rw [c] at hd
        have hd : dueI s es = some i := by rw [hd]; simp
        simp [t0, ob2.1, on2.1, evC]
        refine Tells.cbE (clock_Take hX (o.sl.ext x2) hsl ((os1.ext xn).ext xd) (hst y hm) ⟨by decide, by decide⟩ hs) ?_
        rintro _ g3 ⟨cv', rfl, sl3, xt⟩
        have x3 := x2.trans xt
        have ob3 := o.ob.e x3
        have on3 := on2.e xt
        have o23 := o22.e xt
        have hbn : bn ≠ b := by have := (o.ob.e xg).lt; omega
        have hn2 : bn ≠ b2 := by have := o2.lt; omega
        try simp
        refine Tells.stE ob3 (by rfl) (by simp [AVal.cells, sl3.one]) (by simp) fun g4 ob4 x4 => ?_
        have ob4 : Ob g4 b [I most, cv', vw] := ob4
        have on4 := on3.ext x4 (by simpa using hbn)
        have o24 := o23.ext x4 (by simpa using hb2.symm)
        have x04 : Ext [b] h g4 := x3.of.trans x4
        have ev4 : Gl (evR K) h0 g4 vw es := o.ev.extO x04 (by simpa using .inl o.ob.2.1)
        have wr4 := o.wr.ext x04
        have hnil : vw ≠ .nils := o.ev.1.ne (by omega)
        obtain ⟨-, -, -, k4⟩ := ev4.1.cut (n := 7) rfl hnil (lo := 0) (hi := i) (by omega) (by omega)
        obtain ⟨u1, c1, s1, b1', gr1⟩ := k4 rfl
        obtain ⟨u2, c2, s2, b2'⟩ := ev4.1.dropR (n := 7) rfl (lo := i + 1) (by omega)
        have c2 : slcR 7 vw (some (.int .i64 ((i : Int) + 1))) none none = some u2 := c2
        have w1 : Wr h0 g4 u1 := fun z hz => wr4 z (by rw [← b1']; exact hz)
        simp [t0, ob4.1, c1, w, c2]
        refine Tells.appNWE (r := evR K) ⟨s1, gr1 h0⟩ w1 s2 (by rfl) (by simp; omega) (by decide) (Nat.le_trans hle x04.next) fun v5 g5 gl5 w5 x5 y5 z5 => ?_
        rw [b1'] at x5
        have hbv : b ∉ vw.blks := ev4.1.ob ob4
        have ob5 := ob4.ext x5 hbv
        have on5 := on4.ext x5 (ev4.1.ob on4)
        have o25 := o24.ext x5 (ev4.1.ob o24)
        try simp
        refine Tells.st1E ob5 gl5.1.cells gl5.1.one (by simp) fun g6 ob6 x6 => ?_
        have ob6 : Ob g6 b [I most, cv', v5] := by simpa using ob6
        have on6 := on5.ext x6 (by simpa using hbn)
        have o26 := o25.ext x6 (by simpa using hb2.symm)
        have hb5 : b ∉ v5.blks := gl5.1.ob ob5
        have gl6 : Gl (evR K) h0 g6 v5 (es.take i ++ es.drop (i + 1)) := gl5.ext x6 fun c hc q => hb5 (by rw [← List.mem_singleton.1 q]; exact hc)
        have hb26 : b2 ∉ v5.blks := gl6.1.ob o26
        simp [on6.1, evC, t2]
        have x46 := x5
        have oa6 := ((((((oa1.ext xn).ext xd).ext xt).ext x4).ext x5).ext x6)
        have os6 := ((((((os1.ext xn).ext xd).ext xt).ext x4).ext x5).ext x6)
        refine Tells.stN o26 (ds := evC y va1 vs1) (by rfl) (by rfl) (by simp [evC, oa6.one, os6.one]) (by rfl) fun g7 o27 x7 => ?_
        have E4 : Ext (b :: vw.blks) h g4 := x04.mono (by simp)
        have E5 : Ext (b :: vw.blks) h g5 := E4.trans (x5.mono fun z hz => List.mem_cons_of_mem _ hz)
        have E6 : Ext (b :: vw.blks) h g6 := E5.trans (x6.mono (by simp))
        have E7 : Ext (b :: vw.blks) h g7 := E6.then x7 fun z hz => .inr (by simp at hz; omega)
        refine Tells.ok (hQ2 _ _ (.inr ⟨by simp, by simp [t2], .inr ⟨rfl, by simp, E7, fun S hS k => ?_, i, y, va1, vs1, hd, hy, o27, oa6.ext x7, os6.ext x7, cv', v5, ⟨ob6.ext x7 (by simpa using hb2), (((sl3.ext x4).ext x5).ext x6).ext x7, gl6.ext x7 fun c hc q => hb26 (by rw [← List.mem_singleton.1 q]; exact hc), (w5.ext x6).ext x7⟩⟩⟩))
        have k4 : Ext S h0 g4 := (k.quiet x3).then x4 fun z hz => .inl (by simp at hz; subst hz; exact hS)
        exact ((y5 S k4).then x6 fun z hz => .inl (by simp at hz; subst hz; exact hS)).then x7 fun z hz => .inr (by simp at hz; omega)
    · simp at hc
      exact Tells.ok (hQ2 _ _ (.inr ⟨by simp, by simp [t2], .inl ⟨rfl, xg, l2, by rw [hd, List.drop_eq_nil_of_le (by omega)]; rfl, o2⟩⟩))
  · refine ⟨0, by simp, by simp, by simp, by simp, by simp, by omega, o2, x1, l1, by simp⟩
  · rintro ⟨ex, t⟩ g ⟨t2, ⟨rfl, xg, l2, hd, o2⟩ | ⟨rfl, t3, xg, yg, i, x, va, vs, hd, hx, o2, oa, os, hd'⟩⟩
    · simp only at t2
      simp [J_hold_Hold_Next_0, t2, bldR, fillR]
      refine Tells.stN o2 (ds := evC ev0 .nils .nils) (by rfl) (by rfl) (by rfl) (by rfl) fun g2 o3 x2 => ?_
      simp [t2, C_hold_Hold_Next_0, o3.1, evC]
      have e2 : Ext [] h g2 := xg.then x2 fun z hz => .inr (by simp at hz; omega)
      exact Tells.ok (hQ _ _ ⟨e2.of, fun S _ k => k.quiet e2, .inl ⟨hd, rfl, o.ext e2 (by simp) (by simp)⟩⟩)
    · simp only at t2 t3
      simp [t2, t3, C_hold_Hold_Next_0, o2.1, evC]
      exact Tells.ok (hQ _ _ ⟨xg, yg, .inr ⟨i, x, va, vs, hd, hx, rfl, oa, os, hd'⟩⟩)
theorem hold_Len (hX : OnlyKnown X) {K b : Nat} {most : Int} {s : Slots} {es : List Ev} {cv vw : AVal} {h0 h : Heap} (o : Hd K h0 h b most s es cv vw) :
    Tells (fun q => acallX Try.prog X q F_hold_Hold_Len [.ptr b 0] h) fun a h' => a = I es.length ∧ h' = h := by
  refine R_hold_Hold_Len _ (hX _ _ rfl) ?_
  unfold S_hold_Hold_Len
  simp [o.ob.1, o.ev.1.len]
  exact Tells.ok ⟨rfl, rfl⟩
theorem hold_Clock (hX : OnlyKnown X) {K b : Nat} {most : Int} {s : Slots} {es : List Ev} {cv vw : AVal} {h0 h : Heap} (o : Hd K h0 h b most s es cv vw) :
    Tells (fun q => acallX Try.prog X q F_hold_Hold_Clock [.ptr b 0] h) fun a h' => a = .agg [cv] ∧ Ext [] h h' := by
  refine R_hold_Hold_Clock _ (hX _ _ rfl) ?_
  refine Tells.prot fun Q' hQ => ?_
  unfold S_hold_Hold_Clock
  try simp
  refine Tells.new fun h1 b2 o2 x1 l1 => ?_
  have ob1 := o.ob.e x1
  simp [ob1.1]
  refine Tells.stN o2 (ds := [cv]) (by rfl) (by rfl) (by simp [o.sl.one]) (by rfl) fun h2 o3 x2 => ?_
  simp [C_hold_Hold_Clock_0, o3.1]
  exact Tells.ok (hQ _ _ ⟨rfl, x1.then x2 fun z hz => .inr (by simp at hz; omega)⟩)
end
end Go.Proofs.Ytbpbdigehfkjjaa
