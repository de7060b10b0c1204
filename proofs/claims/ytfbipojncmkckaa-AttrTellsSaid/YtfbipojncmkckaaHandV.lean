/-
  What precentorhand's Float, Value and Attrs tell.
-/
import Derived.Test.YtfbipojncmkckaaB3
import Derived.Test.YtfbipojncmkckaaHand0
import Derived.Test.YtfbipojncmkckaaCell0
import Derived.Test.YtfbipojncmkckaaSmath
set_option linter.unusedVariables false
set_option linter.unusedSimpArgs false
namespace Go.Proofs.Ytfbipojncmkckaa
open Go.Ab

theorem Tells.app1WE {β : Type} {Q : β → Heap → Prop} {h : Heap} {call : Nat → FuncId → List AVal → Heap → Res AVal} {α : Type} {r : Rp α} {h0 : Heap} {xs : List α} {s v : AVal} {c z : List AVal} {x : α} {n by_ : Nat} {k : Nat → AVal → AVal → Heap → Res β} (g : Gl r h0 h s xs) (wr : Wr h0 h s) (hv : v.cells = c) (hk : v.known = true) (hx : r.rep h c x) (hn : r.n = n) (hz : z.length = n) (hl : xs.length < 2 ^ 33)
    (hby : by_ ≤ 2 ^ 12) (hle : h0.next ≤ h.next) (q : ∀ s' h', Gl r h0 h' s' (xs ++ [x]) → Wr h0 h' s' → Ext s.blks h h' → (∀ S, Ext S h0 h → Ext S h0 h') → (∀ b, b ∈ s'.blks → b ∈ s.blks ∨ h.next ≤ b) → Tells (fun m => k m (.sl h.next 0 1 1 n true) s' h') Q) :
    Tells (fun m => arbV (bslR n z 1 h [(0, n, v)]) fun a h2 => arbE (appR n by_ h2 s a) (call m) (k m a)) Q := by
  subst hv
  have hc : v.cells.length = n := by rw [← hn]; exact r.len hx
  obtain ⟨s', h', q1, q2, q3, q4, q5⟩ := g.app1 (by_ := by_) hx hn hl hby hle
  have e1 := Ext.new h false v.cells
  simp only [bsl1 hz hk hc, arbV_val, q1, arbE_val]
  exact q s' h' q2 (appR_wr q1 (wr.ext e1) (Nat.le_trans hle e1.next)) q3 q4 q5
theorem nat_bits (b : Nat) : aNat Try.prog F_math_Float64bits [.flt .f64 b] = some (.int .u64 b) := by kernel_rfl
theorem nat_frombits (n : Int) : aNat Try.prog F_math_Float64frombits [.int .u64 n] = some (.flt .f64 n.toNat) := by kernel_rfl

/-- A value: its kind, whole number, float's bits, text, bool. -/
structure Vl where
  k : Int
  n : Int
  x : Nat
  s : ByteArray
  b : Bool
def vlC (v : Vl) : List AVal := [I v.k, I v.n, .flt .f64 v.x, .str v.s, .bool v.b]
def fl14 : List Nat := [0, 9223372036854775808, 4607182418800017408, 4609434218613702656, 4611686018427387904, 4613937818241073152, 13830554455654793216, 4591870180066957722, 9221120237041090561, 9218868437227405312, 18442240474082181120, 4845873199050653696, 4890909195324358656, 1]
def texts6 : List ByteArray := [bs [], bs [97], bs [97, 98], bs [98], bs [98, 97], bs [116, 119, 101, 108, 118, 101, 32, 98, 121, 116, 101, 115]]
def ints6 : List Int := [-9223372036854775808, 9223372036854775807, 9007199254740992, 9007199254740993, -1, 4611686018427387904]
/-- A value that the feed tells. -/
def FedV (v : Vl) : Prop := (v.k = 1 ∧ v.x = 0 ∧ v.s = bs [] ∧ v.b = false ∧ In64 v.n) ∨ (v.k = 2 ∧ v.n = 0 ∧ v.x ∈ fl14 ∧ v.s = bs [] ∧ v.b = false) ∨
  (v.k = 3 ∧ v.n = 0 ∧ v.x = 0 ∧ v.s ∈ texts6 ∧ v.b = false) ∨ (v.k = 4 ∧ v.n = 0 ∧ v.x = 0 ∧ v.s = bs [])
abbrev Att := ByteArray × Vl
def attC (a : Att) : List AVal := .str a.1 :: vlC a.2
def attrR : Rp Att := ⟨6, by decide, fun _ cs x => cs = attC x, fun h => by rw [h]; rfl, fun h => by rw [h]; rfl, fun h _ => h⟩
def names5 : List ByteArray := [bs [97], bs [98], bs [99], bs [100], bs [108, 111, 110, 103]]

section
variable {X : XTab}

theorem Copysign0 (hX : OnlyKnown X) (h : Heap) : Tells (fun q => acallX Try.prog X q F_math_Copysign [.flt .f64 0, .flt .f64 13830554455654793216] h) fun r h' => r = .flt .f64 9223372036854775808 ∧ h' = h := by
  refine R_math_Copysign _ _ (hX _ _ rfl) ?_
  unfold S_math_Copysign
  have e1 : ∀ t x y, aBin Try.prog .andNot t x y (.int .u64 0) (.int .u64 9223372036854775808) = some (.int .u64 0) := fun t x y => by kernel_rfl
  have e2 : ∀ t x y, aBin Try.prog .and t x y (.int .u64 13830554455654793216) (.int .u64 9223372036854775808) = some (.int .u64 9223372036854775808) := fun t x y => by kernel_rfl
  have e3 : ∀ t x y, aBin Try.prog .or t x y (.int .u64 0) (.int .u64 9223372036854775808) = some (.int .u64 9223372036854775808) := fun t x y => by kernel_rfl
  have n1 := nat_bits 0
  have n2 := nat_bits 13830554455654793216
  have n3 := nat_frombits 9223372036854775808
  simp at n1 n2 n3
  simp [n1, n2, e1, e2, e3, n3]
  exact Tells.ok ⟨rfl, rfl⟩
theorem NaN_ (hX : OnlyKnown X) (h : Heap) : Tells (fun q => acallX Try.prog X q F_math_NaN [] h) fun r h' => r = .flt .f64 9221120237041090561 ∧ h' = h := by
  refine R_math_NaN (hX _ _ rfl) ?_
  unfold S_math_NaN
  have n3 := nat_frombits 9221120237041090561
  simp at n3
  simp [n3]
  exact Tells.ok ⟨rfl, rfl⟩
theorem Inf_ (hX : OnlyKnown X) (s : Int) (h : Heap) : Tells (fun q => acallX Try.prog X q F_math_Inf [I s] h) fun r h' => r = .flt .f64 (if 0 ≤ s then 9218868437227405312 else 18442240474082181120) ∧ h' = h := by
  refine R_math_Inf _ (hX _ _ rfl) ?_
  unfold S_math_Inf
  have n3 := nat_frombits 9218868437227405312
  have n4 := nat_frombits 18442240474082181120
  simp at n3 n4
  by_cases q : 0 ≤ s
  · simp [q, J_math_Inf_0, n3]
    exact Tells.ok ⟨rfl, rfl⟩
  · simp [q, J_math_Inf_0, n4]
    exact Tells.ok ⟨rfl, rfl⟩

theorem FloatH (hX : OnlyKnown X) {h : Heap} {bf k : Nat} (f : Feed h bf k) (hk : k < 2 ^ 62) :
    Tells (fun q => acallX Try.prog X q F_precentorhand_Feed_Float [.ptr bf 0] h) fun r h' => ∃ x, r = .flt .f64 x ∧ x ∈ fl14 ∧ Ext [bf] h h' ∧ Feed h' bf (k + 1) := by
  refine R_precentorhand_Feed_Float _ (hX _ _ rfl) ?_
  refine Tells.prot fun Q' hQ => ?_
  unfold S_precentorhand_Feed_Float
  try simp
  refine Tells.bind (Copysign0 hX h) ?_
  rintro _ h ⟨rfl, rfl⟩
  try simp
  refine Tells.bind (NaN_ hX h) ?_
  rintro _ h ⟨rfl, rfl⟩
  try simp
  refine Tells.bind (Inf_ hX 1 h) ?_
  rintro _ h ⟨rfl, rfl⟩
  try simp
  refine Tells.bind (Inf_ hX (-1) h) ?_
  rintro _ h ⟨rfl, rfl⟩
  simp [bldR, fillR, splice]
  refine Tells.newSt (ds := fl14.map fun x => .flt .f64 x) (by rfl) (by rfl) (by rfl) (by rfl) fun h1 bl o1 x1 l1 => ?_
  try simp
  refine Tells.bind (Next hX 14 ⟨by decide, by decide⟩ (f.e x1) hk) ?_
  rintro _ h2 ⟨r, rfl, r0, r1, _, x2, f2⟩
  have r1 := r1 (by decide)
  obtain ⟨n, rfl⟩ : ∃ n : Nat, r = n := ⟨r.toNat, by omega⟩
  have hn : n < 14 := by omega
  have hp := ixp_at (len := 14) (z := 1) (b := bl) (o := 0) hn
  rw [Nat.mul_one] at hp
  have o2 := o1.ext x2 (by have := f.lt; simp; omega)
  obtain ⟨x, hx⟩ : ∃ x, fl14[n]? = some x := ⟨_, List.getElem?_eq_getElem (by simpa [fl14] using hn)⟩
  have hx2 : (fl14.map fun x => AVal.flt .f64 x)[n]? = some (.flt .f64 x) := by rw [List.getElem?_map, hx]; rfl
  rw [Nat.zero_add] at hp
  simp only [hp, of_some, arb_val, ld1_ptr, cell_eq, o2.1, hx2, lt_eq, retK_ret, resK_tmp, resK_nil, upd_same, one_one, bind_ok']
  exact Tells.ok (hQ _ _ ⟨x, rfl, List.mem_of_getElem? hx, x1.of.then x2 fun z hz => .inl hz, f2⟩)

theorem ValueH (hX : OnlyKnown X) {h : Heap} {bf k : Nat} (f : Feed h bf k) (hk : k < 2 ^ 61) :
    Tells (fun q => acallX Try.prog X q F_precentorhand_Feed_Value [.ptr bf 0] h) fun r h' => ∃ v, r = .agg (vlC v) ∧ FedV v ∧ Ext [bf] h h' ∧ Feed h' bf (k + 2) := by
  refine R_precentorhand_Feed_Value _ (hX _ _ rfl) ?_
  refine Tells.prot fun Q' hQ => ?_
  unfold S_precentorhand_Feed_Value
  try simp
  refine Tells.new fun h1 bv o1 x1 l1 => ?_
  have hne : bf ≠ bv := by have := f.lt; omega
  try simp
  refine Tells.bind (Next hX 8 ⟨by decide, by decide⟩ (f.e x1) (by omega)) ?_
  rintro _ h2 ⟨r, rfl, r0, r1, _, x2, f2⟩
  have o2 := o1.ext x2 (by simpa using hne.symm)
  have x02 : Ext [bf] h h2 := x1.of.then x2 fun z hz => .inl hz
  -- the end of each way
  have fin : ∀ (g : Heap) (v : Vl) (K : Nat), K ≤ k + 2 → FedV v → Ob g bv (vlC v) → Ext [bf] h g → Feed g bf K → Q' (.agg (vlC v)) g := fun g v K hK hv o x f => hQ _ _ ⟨v, rfl, hv, x, f.mono hK⟩
  have xs : ∀ {g g' : Heap}, Ext [bf] h g → Ext [bv] g g' → Ext [bf] h g' := fun a b => a.then b fun z hz => .inr (by simp at hz; omega)
  have one : ∀ (ty : Nat), (∀ h a, aLoad Try.prog h ty a = ldn 5 h a) → ∀ (t : T) (q : Bool), t 0 = .ptr bf 0 → t 2 = .ptr bv 0 → t 6 = I r → t 7 = .bool q → Tells (fun m => J_precentorhand_Feed_Value_1 Try.prog (acallX Try.prog X m) m (blkK 0 (sqK (J_precentorhand_Feed_Value_0 Try.prog (acallX Try.prog X m) m (retK Try.prog [.cell 2 ty])) (retK Try.prog [.cell 2 ty]))) t h2) Q' := by
    intro ty hty t q t0 t2 t6 t7
    unfold J_precentorhand_Feed_Value_1
    cases q with
    | true =>
      simp [t7, t0]
      refine Tells.bind (FloatH hX f2 (by omega)) ?_
      rintro _ h3 ⟨x, rfl, hx, x3, f3⟩
      have o3 := o2.ext x3 (by simpa using hne.symm)
      simp [bldR, fillR, splice, t2]
      refine Tells.stN o3 (ds := vlC ⟨2, 0, x, bs [], false⟩) (by rfl) (by rfl) (by rfl) (by rfl) fun h4 o4 x4 => ?_
      simp [t2, hty, o4.1]
      exact Tells.ok (fin h4 ⟨2, 0, x, bs [], false⟩ (k + 2) (Nat.le_refl _) (.inr (.inl ⟨rfl, rfl, hx, rfl, rfl⟩)) o4 (xs (x02.trans x3) x4) (f3.ext x4 (by simpa using hne)))
    | false =>
      by_cases c2 : r = 2
      · simp [t7, t6, c2, bldR, fillR, splice]
        refine Tells.newSt (ds := texts6.map AVal.str) (by rfl) (by rfl) (by rfl) (by rfl) fun h3 bl o3 x3 l3 => ?_
        have f3 := f2.e x3
        simp [t0]
        refine Tells.bind (Next hX 6 ⟨by decide, by decide⟩ f3 (by omega)) ?_
        rintro _ h4 ⟨u, rfl, u0, u1, _, x4, f4⟩
        have u1 := u1 (by decide)
        obtain ⟨n, rfl⟩ : ∃ n : Nat, u = n := ⟨u.toNat, by omega⟩
        have hn : n < 6 := by omega
        have hp := ixp_at (len := 6) (z := 1) (b := bl) (o := 0) hn
        rw [Nat.mul_one, Nat.zero_add] at hp
        have o4 := o3.ext x4 (by have := f2.lt; simp; omega)
        have v4 := (o2.e x3).ext x4 (by simpa using hne.symm)
        obtain ⟨s, hs⟩ : ∃ s, texts6[n]? = some s := ⟨_, List.getElem?_eq_getElem (by simpa [texts6] using hn)⟩
        have hs2 : (texts6.map AVal.str)[n]? = some (.str s) := by rw [List.getElem?_map, hs]; rfl
        simp only [hp, of_some, arb_val, ld1_ptr, cell_eq, o4.1, hs2, lt_eq]
        simp [t2]
        refine Tells.stN v4 (ds := vlC ⟨3, 0, 0, s, false⟩) (by rfl) (by rfl) (by rfl) (by rfl) fun h5 o5 x5 => ?_
        simp [t2, hty, o5.1]
        exact Tells.ok (fin h5 ⟨3, 0, 0, s, false⟩ (k + 2) (Nat.le_refl _) (.inr (.inr (.inl ⟨rfl, rfl, rfl, List.mem_of_getElem? hs, rfl⟩))) o5 (xs ((x02.quiet x3).trans x4) x5) (f4.ext x5 (by simpa using hne)))
      · have e2 : (r == 2) = false := beq_eq_false_iff_ne.2 c2
        by_cases c3 : r = 3
        · simp [t7, t6, c3, t0]
          refine Tells.bind (Next hX 2 ⟨by decide, by decide⟩ f2 (by omega)) ?_
          rintro _ h3 ⟨u, rfl, _, _, _, x3, f3⟩
          have o3 := o2.ext x3 (by simpa using hne.symm)
          simp [bldR, fillR, splice, t2]
          refine Tells.stN o3 (ds := vlC ⟨4, 0, 0, bs [], u == 1⟩) (by rfl) (by rfl) (by rfl) (by rfl) fun h4 o4 x4 => ?_
          simp [t2, hty, o4.1]
          exact Tells.ok (fin h4 ⟨4, 0, 0, bs [], u == 1⟩ (k + 2) (Nat.le_refl _) (.inr (.inr (.inr ⟨rfl, rfl, rfl, rfl⟩))) o4 (xs (x02.trans x3) x4) (f3.ext x4 (by simpa using hne)))
        · have e3 : (r == 3) = false := beq_eq_false_iff_ne.2 c3
          by_cases c4 : r = 4
          · simp [t7, t6, c4, bldR, fillR, splice]
            refine Tells.newSt (ds := ints6.map I) (by rfl) (by rfl) (by rfl) (by rfl) fun h3 bl o3 x3 l3 => ?_
            have f3 := f2.e x3
            simp [t0]
            refine Tells.bind (Next hX 6 ⟨by decide, by decide⟩ f3 (by omega)) ?_
            rintro _ h4 ⟨u, rfl, u0, u1, _, x4, f4⟩
            have u1 := u1 (by decide)
            obtain ⟨n, rfl⟩ : ∃ n : Nat, u = n := ⟨u.toNat, by omega⟩
            have hn : n < 6 := by omega
            have hp := ixp_at (len := 6) (z := 1) (b := bl) (o := 0) hn
            rw [Nat.mul_one, Nat.zero_add] at hp
            have o4 := o3.ext x4 (by have := f2.lt; simp; omega)
            have v4 := (o2.e x3).ext x4 (by simpa using hne.symm)
            obtain ⟨s, hs⟩ : ∃ s, ints6[n]? = some s := ⟨_, List.getElem?_eq_getElem (by simpa [ints6] using hn)⟩
            have hs2 : (ints6.map I)[n]? = some (I s) := by rw [List.getElem?_map, hs]; rfl
            have hin : In64 s := by
              have : s ∈ ints6 := List.mem_of_getElem? hs
              simp [ints6] at this
              unfold In64
              omega
            simp only [hp, of_some, arb_val, ld1_ptr, cell_eq, o4.1, hs2, lt_eq]
            simp [t2]
            refine Tells.stN v4 (ds := vlC ⟨1, s, 0, bs [], false⟩) (by rfl) (by rfl) (by rfl) (by rfl) fun h5 o5 x5 => ?_
            simp [t2, hty, o5.1]
            exact Tells.ok (fin h5 ⟨1, s, 0, bs [], false⟩ (k + 2) (Nat.le_refl _) (.inl ⟨rfl, rfl, rfl, rfl, hin⟩) o5 (xs ((x02.quiet x3).trans x4) x5) (f4.ext x5 (by simpa using hne)))
          · have e4 : (r == 4) = false := beq_eq_false_iff_ne.2 c4
            simp [t7, t6, e2, e3, e4, J_precentorhand_Feed_Value_0, t0]
            refine Tells.bind (Next hX 5 ⟨by decide, by decide⟩ f2 (by omega)) ?_
            rintro _ h3 ⟨u, rfl, u0, u1, _, x3, f3⟩
            have u1 := u1 (by decide)
            have o3 := o2.ext x3 (by simpa using hne.symm)
            simp [bldR, fillR, splice, t2]
            refine Tells.stN o3 (ds := vlC ⟨1, u, 0, bs [], false⟩) (by rfl) (by rfl) (by rfl) (by rfl) fun h4 o4 x4 => ?_
            simp [t2, hty, o4.1]
            have hu : In64 u := ⟨by omega, by omega⟩
            exact Tells.ok (fin h4 ⟨1, u, 0, bs [], false⟩ (k + 2) (Nat.le_refl _) (.inl ⟨rfl, rfl, rfl, rfl, hu⟩) o4 (xs (x02.trans x3) x4) (f3.ext x4 (by simpa using hne)))
  by_cases c0 : r = 0
  · subst c0
    try simp
    exact one _ C_precentorhand_Feed_Value_0 _ _ (by simp) (by simp) (by simp) (by simp; rfl)
  · have e0 : (r == 0) = false := beq_eq_false_iff_ne.2 c0
    simp [e0]
    exact one _ C_precentorhand_Feed_Value_0 _ (r == 1) (by simp) (by simp) (by simp) (by simp)

theorem AttrsW (hX : OnlyKnown X) {h : Heap} {bf k : Nat} (f : Feed h bf k) (hk : k < 2 ^ 60) :
    Tells (fun q => acallX Try.prog X q F_precentorhand_Feed_Attrs [.ptr bf 0] h) fun r h' => ∃ ats : List Att, Gl attrR h h' r ats ∧ Wr h h' r ∧ ats.length ≤ 5 ∧ (ats.map (·.1)).Sublist names5 ∧ (∀ a, a ∈ ats → FedV a.2) ∧ Ext [bf] h h' ∧ Feed h' bf (k + 15) := by
  refine R_precentorhand_Feed_Attrs _ (hX _ _ rfl) ?_
  refine Tells.prot fun Q' hQ => ?_
  unfold S_precentorhand_Feed_Attrs
  simp [bldR, fillR, splice]
  refine Tells.newSt (ds := names5.map AVal.str) (by rfl) (by rfl) (by rfl) (by rfl) fun h1 bl o1 x1 l1 => ?_
  have hne : bf ≠ bl := by have := f.lt; omega
  try simp
  refine Tells.bind (Tells.loop (fun n t g => ∃ (i : Nat) (ats : List Att), t 0 = .ptr bf 0 ∧ t 4 = .ptr bl 0 ∧ t 5 = I i ∧ i + n = 5 ∧ Gl attrR h g (t 3) ats ∧ Wr h g (t 3) ∧ ats.length ≤ i ∧ (ats.map (·.1)).Sublist (names5.take i) ∧ (∀ a, a ∈ ats → FedV a.2) ∧ Ob g bl (names5.map AVal.str) ∧ Ext [bf] h g ∧ Feed g bf (k + 3 * i))
    (Q := fun p g => p.1 = .exit 0 ∧ ∃ ats : List Att, Gl attrR h g (p.2 3) ats ∧ Wr h g (p.2 3) ∧ ats.length ≤ 5 ∧ (ats.map (·.1)).Sublist names5 ∧ (∀ a, a ∈ ats → FedV a.2) ∧ Ext [bf] h g ∧ Feed g bf (k + 15)) ?_ 5 _ _ ?_) ?_
  · rintro n t g ⟨i, ats, t0, t4, t5, hi, ga, wa, hl, hs, hv, on, x, f⟩
    refine Tells.prot fun Q2 hQ2 => ?_
    unfold L_precentorhand_Feed_Attrs_1
    by_cases hc : i < 5
    · have w : IntKind.i64.wrap ((i : Int) + 1) = i + 1 := wrap_id (by omega) (by omega)
      have quo : ∀ t x y, aBin Try.prog .quo t x y (I i) (I 3) = some (I (IntKind.i64.wrap ((i : Int).tdiv 3))) := fun t x y => aBin_quo _ _ _ _ _ _ _ (by decide)
      simp [t5, show (i : Int) < 5 by omega, J_precentorhand_Feed_Attrs_2, t0]
      refine Tells.bind (Next hX 3 ⟨by decide, by decide⟩ f (by omega)) ?_
      rintro _ g1 ⟨r, rfl, r0, r1, _, x2, f2⟩
      have on1 := on.ext x2 (by simpa using hne.symm)
      have ga1 := ga.extO x2 (by simpa using .inl f.m)
      have htk : names5.take (i + 1) = names5.take i ++ (names5[i]?).toList := List.take_add_one
      obtain ⟨nm, hnm⟩ : ∃ s, names5[i]? = some s := ⟨_, List.getElem?_eq_getElem (by simpa [names5] using hc)⟩
      have hnm2 : (names5.map AVal.str)[i]? = some (.str nm) := by rw [List.getElem?_map, hnm]; rfl
      have hp := ixp_at (len := 5) (z := 1) (b := bl) (o := 0) hc
      rw [Nat.mul_one, Nat.zero_add] at hp
      rw [hnm] at htk
      simp [t5, quo]
      refine Tells.cb (fun hc2 => ?_) (fun hc2 => ?_)
      · simp only [t4, t5, t0, hp, of_some, obv_val, ld1_ptr, cell_eq, on1.1, hnm2, ifb_true, arbE_call, lt_eq]
        refine Tells.cbE (ValueH hX f2 (by omega)) ?_
        rintro _ g2 ⟨v, rfl, hv2, x3, f3⟩
        have on2 := on1.ext x3 (by simpa using hne.symm)
        have ga2 := ga1.extO x3 (by simpa using .inl f2.m)
        simp only [ld1_ptr, cell_eq, on2.1, hnm2, of_some, arVal_val, isV_self, Bool.and_true, ifb_true]
        have hb : bldR [.str (bs []), .int .i64 0, .int .i64 0, .flt .f64 0, .str (bs []), .bool false] [(0, 1, .str nm), (1, 5, .agg (vlC v))] = some (.agg (attC (nm, v))) := by
          simp [bldR, fillR, splice, attC, vlC]
        simp only [hb, of_some, obv_val]
        refine Tells.app1WE ga2 ((wa.ext x2).ext x3) (by rfl) (by rfl) (show attrR.rep g2 (attC (nm, v)) (nm, v) from rfl) (by rfl) (by rfl) (by omega) (by decide) ((x.trans x2).trans x3).next fun s6 h6 g6 w6 x6 y6 z6 => ?_
        have on6 := on2.ext x6 (ga2.1.ob on2)
        have f6 := f3.ext x6 (fun q => by have := (ga2.1.blk _ q).1; rw [f3.m] at this; cases this)
        simp [J_precentorhand_Feed_Attrs_3, t5, w]
        refine Tells.ok (hQ2 _ _ (.inl ⟨rfl, n - 1, by omega, i + 1, ats ++ [(nm, v)], by simp [t0], by simp [t4], by simp, by omega, by simpa using g6, by simpa using w6, by simp; omega, ?_, fun a ha => ?_, on6, y6 _ ((x.trans x2).trans x3), f6.mono (by omega)⟩))
        · rw [htk, List.map_append]
          exact hs.append (by simp)
        · rcases List.mem_append.1 ha with q | q
          · exact hv a q
          · simp at q; subst q; exact hv2
      · simp [J_precentorhand_Feed_Attrs_3, t5, w]
        refine Tells.ok (hQ2 _ _ (.inl ⟨rfl, n - 1, by omega, i + 1, ats, by simp [t0], by simp [t4], by simp, by omega, by simpa using ga1, by simpa using wa.ext x2, by omega, ?_, hv, on1, x.trans x2, f2.mono (by omega)⟩))
        rw [htk]
        exact hs.trans (List.sublist_append_left _ _)
    · have : i = 5 := by omega
      subst this
      simp [t5]
      exact Tells.ok (hQ2 _ _ (.inr ⟨by simp, rfl, ats, by simpa using ga, by simpa using wa, hl, hs, hv, x, f⟩))
  · exact ⟨0, [], by simp, by simp, by simp, by omega, by simpa using Gl.nil, fun b hb => by simp [AVal.blks] at hb, by simp, by simp, by simp, o1, x1.of, f.e x1⟩
  · rintro ⟨ex, t⟩ g ⟨rfl, ats, ga, wa, hl, hs, hv, x, f⟩
    simp [J_precentorhand_Feed_Attrs_0]
    exact Tells.ok (hQ _ _ ⟨ats, ga, wa, hl, hs, hv, x, f⟩)
theorem AttrsH (hX : OnlyKnown X) {h : Heap} {bf k : Nat} (f : Feed h bf k) (hk : k < 2 ^ 60) :
    Tells (fun q => acallX Try.prog X q F_precentorhand_Feed_Attrs [.ptr bf 0] h) fun r h' => ∃ ats : List Att, Gl attrR h h' r ats ∧ ats.length ≤ 5 ∧ (ats.map (·.1)).Sublist names5 ∧ (∀ a, a ∈ ats → FedV a.2) ∧ Ext [bf] h h' ∧ Feed h' bf (k + 15) := by
  exact (AttrsW hX f hk).mono fun _ _ ⟨ats, ga, _, q⟩ => ⟨ats, ga, q⟩
end
end Go.Proofs.Ytfbipojncmkckaa
