/-
  What precentorhand's Value tells.
-/
import Derived.Test.YtjoniicebjpdaaaHandF
set_option linter.unusedVariables false
set_option linter.unusedSimpArgs false
namespace Go.Proofs.Ytjoniicebjpdaaa
open Go.Ab

section
variable {X : XTab}

/-- A value: its kind, whole number, float's bits, text, bool. -/
structure Vl where
  k : Int
  n : Int
  x : Nat
  s : ByteArray
  b : Bool

def vlC (v : Vl) : List AVal := [I v.k, I v.n, .flt .f64 v.x, .str v.s, .bool v.b]

def texts6 : List ByteArray := [bs [], bs [97], bs [97, 98], bs [98], bs [98, 97], bs [116, 119, 101, 108, 118, 101, 32, 98, 121, 116, 101, 115]]

def ints6 : List Int := [-9223372036854775808, 9223372036854775807, 9007199254740992, 9007199254740993, -1, 4611686018427387904]

/-- A value that the feed tells. -/
def FedV (v : Vl) : Prop := (v.k = 1 ∧ v.x = 0 ∧ v.s = bs [] ∧ v.b = false ∧ In64 v.n) ∨ (v.k = 2 ∧ v.n = 0 ∧ v.x ∈ fl14 ∧ v.s = bs [] ∧ v.b = false) ∨
  (v.k = 3 ∧ v.n = 0 ∧ v.x = 0 ∧ v.s ∈ texts6 ∧ v.b = false) ∨ (v.k = 4 ∧ v.n = 0 ∧ v.x = 0 ∧ v.s = bs [])

theorem ValueH (hX : OnlyKnown X) {h : Heap} {bf k : Nat} (f : Feed h bf k) (hk : k < 2 ^ 61) :
    Tells (fun q => acallX Try.prog X q F_precentorhand_Feed_Value [.ptr bf 0] h) fun r h' => ∃ v, r = .agg (vlC v) ∧ FedV v ∧ Ext [bf] h h' ∧ Feed h' bf (k + 2) := by
  refine R_precentorhand_Feed_Value _ (hX _ _ rfl) ?_
  refine Tells.prot fun Q' hQ => ?_
  unfold S_precentorhand_Feed_Value
  try simp
  refine Tells.new fun h1 bv o1 x1 l1 => ?_
  have hne : bf ≠ bv := by have := f.lt; omega
  try simp
  refine Tells.bind (Next hX 8 ⟨by decide, by decide⟩ (f.e x1) (by omega)) ?_
  rintro _ h2 ⟨r, rfl, r0, r1, _, x2, f2⟩
  have o2 := o1.ext x2 (by simpa using hne.symm)
  have x02 : Ext [bf] h h2 := x1.of.then x2 fun z hz => .inl hz
  -- the end of each way
  have fin : ∀ (g : Heap) (v : Vl) (K : Nat), K ≤ k + 2 → FedV v → Ob g bv (vlC v) → Ext [bf] h g → Feed g bf K → Q' (.agg (vlC v)) g := fun g v K hK hv o x f => hQ _ _ ⟨v, rfl, hv, x, f.mono hK⟩
  have xs : ∀ {g g' : Heap}, Ext [bf] h g → Ext [bv] g g' → Ext [bf] h g' := fun a b => a.then b fun z hz => .inr (by simp at hz; omega)
  have one : ∀ (ty : Nat), (∀ h a, aLoad Try.prog h ty a = ldn 5 h a) → ∀ (t : T) (q : Bool), t 0 = .ptr bf 0 → t 2 = .ptr bv 0 → t 6 = I r → t 7 = .bool q → Tells (fun m => J_precentorhand_Feed_Value_1 Try.prog (acallX Try.prog X m) m (blkK 0 (sqK (J_precentorhand_Feed_Value_0 Try.prog (acallX Try.prog X m) m (retK Try.prog [.cell 2 ty])) (retK Try.prog [.cell 2 ty]))) t h2) Q' := by
    intro ty hty t q t0 t2 t6 t7
    unfold J_precentorhand_Feed_Value_1
    cases q with
    | true =>
      simp [t7, t0]
      refine Tells.bind (FloatH hX f2 (by omega)) ?_
      rintro _ h3 ⟨x, rfl, hx, x3, f3⟩
      have o3 := o2.ext x3 (by simpa using hne.symm)
      simp [bldR, fillR, splice, t2]
      refine Tells.stN o3 (ds := vlC ⟨2, 0, x, bs [], false⟩) (by rfl) (by rfl) (by rfl) (by rfl) fun h4 o4 x4 => ?_
      simp [t2, hty, o4.1]
      exact Tells.ok (fin h4 ⟨2, 0, x, bs [], false⟩ (k + 2) (Nat.le_refl _) (.inr (.inl ⟨rfl, rfl, hx, rfl, rfl⟩)) o4 (xs (x02.trans x3) x4) (f3.ext x4 (by simpa using hne)))
    | false =>
      by_cases c2 : r = 2
      · simp [t7, t6, c2, bldR, fillR, splice]
        refine Tells.newSt (ds := texts6.map AVal.str) (by rfl) (by rfl) (by rfl) (by rfl) fun h3 bl o3 x3 l3 => ?_
        have f3 := f2.e x3
        simp [t0]
        refine Tells.bind (Next hX 6 ⟨by decide, by decide⟩ f3 (by omega)) ?_
        rintro _ h4 ⟨u, rfl, u0, u1, _, x4, f4⟩
        have u1 := u1 (by decide)
        obtain ⟨n, rfl⟩ : ∃ n : Nat, u = n := ⟨u.toNat, by omega⟩
        have hn : n < 6 := by omega
        have hp := ixp_at (len := 6) (z := 1) (b := bl) (o := 0) hn
        rw [Nat.mul_one, Nat.zero_add] at hp
        have o4 := o3.ext x4 (by have := f2.lt; simp; omega)
        have v4 := (o2.e x3).ext x4 (by simpa using hne.symm)
        obtain ⟨s, hs⟩ : ∃ s, texts6[n]? = some s := ⟨_, List.getElem?_eq_getElem (by simpa [texts6] using hn)⟩
        have hs2 : (texts6.map AVal.str)[n]? = some (.str s) := by rw [List.getElem?_map, hs]; rfl
        simp only [hp, of_some, arb_val, ld1_ptr, cell_eq, o4.1, hs2, lt_eq]
        simp [t2]
        refine Tells.stN v4 (ds := vlC ⟨3, 0, 0, s, false⟩) (by rfl) (by rfl) (by rfl) (by rfl) fun h5 o5 x5 => ?_
        simp [t2, hty, o5.1]
        exact Tells.ok (fin h5 ⟨3, 0, 0, s, false⟩ (k + 2) (Nat.le_refl _) (.inr (.inr (.inl ⟨rfl, rfl, rfl, List.mem_of_getElem? hs, rfl⟩))) o5 (xs ((x02.quiet x3).trans x4) x5) (f4.ext x5 (by simpa using hne)))
      · have e2 : (r == 2) = false := beq_eq_false_iff_ne.2 c2
        by_cases c3 : r = 3
        · simp [t7, t6, c3, t0]
          refine Tells.bind (Next hX 2 ⟨by decide, by decide⟩ f2 (by omega)) ?_
          rintro _ h3 ⟨u, rfl, _, _, _, x3, f3⟩
          have o3 := o2.ext x3 (by simpa using hne.symm)
          simp [bldR, fillR, splice, t2]
          refine Tells.stN o3 (ds := vlC ⟨4, 0, 0, bs [], u == 1⟩) (by rfl) (by rfl) (by rfl) (by rfl) fun h4 o4 x4 => ?_
          simp [t2, hty, o4.1]
          exact Tells.ok (fin h4 ⟨4, 0, 0, bs [], u == 1⟩ (k + 2) (Nat.le_refl _) (.inr (.inr (.inr ⟨rfl, rfl, rfl, rfl⟩))) o4 (xs (x02.trans x3) x4) (f3.ext x4 (by simpa using hne)))
        · have e3 : (r == 3) = false := beq_eq_false_iff_ne.2 c3
          by_cases c4 : r = 4
          · simp [t7, t6, c4, bldR, fillR, splice]
            refine Tells.newSt (ds := ints6.map I) (by rfl) (by rfl) (by rfl) (by rfl) fun h3 bl o3 x3 l3 => ?_
            have f3 := f2.e x3
            simp [t0]
            refine Tells.bind (Next hX 6 ⟨by decide, by decide⟩ f3 (by omega)) ?_
            rintro _ h4 ⟨u, rfl, u0, u1, _, x4, f4⟩
            have u1 := u1 (by decide)
            obtain ⟨n, rfl⟩ : ∃ n : Nat, u = n := ⟨u.toNat, by omega⟩
            have hn : n < 6 := by omega
            have hp := ixp_at (len := 6) (z := 1) (b := bl) (o := 0) hn
            rw [Nat.mul_one, Nat.zero_add] at hp
            have o4 := o3.ext x4 (by have := f2.lt; simp; omega)
            have v4 := (o2.e x3).ext x4 (by simpa using hne.symm)
            obtain ⟨s, hs⟩ : ∃ s, ints6[n]? = some s := ⟨_, List.getElem?_eq_getElem (by simpa [ints6] using hn)⟩
            have hs2 : (ints6.map I)[n]? = some (I s) := by rw [List.getElem?_map, hs]; rfl
            have hin : In64 s := by
              have : s ∈ ints6 := List.mem_of_getElem? hs
              simp [ints6] at this
              unfold In64
              omega
            simp only [hp, of_some, arb_val, ld1_ptr, cell_eq, o4.1, hs2, lt_eq]
            simp [t2]
            refine Tells.stN v4 (ds := vlC ⟨1, s, 0, bs [], false⟩) (by rfl) (by rfl) (by rfl) (by rfl) fun h5 o5 x5 => ?_
            simp [t2, hty, o5.1]
            exact Tells.ok (fin h5 ⟨1, s, 0, bs [], false⟩ (k + 2) (Nat.le_refl _) (.inl ⟨rfl, rfl, rfl, rfl, hin⟩) o5 (xs ((x02.quiet x3).trans x4) x5) (f4.ext x5 (by simpa using hne)))
          · have e4 : (r == 4) = false := beq_eq_false_iff_ne.2 c4
            simp [t7, t6, e2, e3, e4, J_precentorhand_Feed_Value_0, t0]
            refine Tells.bind (Next hX 5 ⟨by decide, by decide⟩ f2 (by omega)) ?_
            rintro _ h3 ⟨u, rfl, u0, u1, _, x3, f3⟩
            have u1 := u1 (by decide)
            have o3 := o2.ext x3 (by simpa using hne.symm)
            simp [bldR, fillR, splice, t2]
            refine Tells.stN o3 (ds := vlC ⟨1, u, 0, bs [], false⟩) (by rfl) (by rfl) (by rfl) (by rfl) fun h4 o4 x4 => ?_
            simp [t2, hty, o4.1]
            have hu : In64 u := ⟨by omega, by omega⟩
            exact Tells.ok (fin h4 ⟨1, u, 0, bs [], false⟩ (k + 2) (Nat.le_refl _) (.inl ⟨rfl, rfl, rfl, rfl, hu⟩) o4 (xs (x02.trans x3) x4) (f3.ext x4 (by simpa using hne)))
  by_cases c0 : r = 0
  · subst c0
    try simp
    exact one _ C_precentorhand_Feed_Value_0 _ _ (by simp) (by simp) (by simp) (by simp; rfl)
  · have e0 : (r == 0) = false := beq_eq_false_iff_ne.2 c0
    simp [e0]
    exact one _ C_precentorhand_Feed_Value_0 _ (r == 1) (by simp) (by simp) (by simp) (by simp)

end
end Go.Proofs.Ytjoniicebjpdaaa
