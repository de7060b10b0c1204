/-
  What precentorhand's Float tells.
-/
import Derived.Test.YtnlcjindeoaklaaB3
import Derived.Test.YtnlcjindeoaklaaHand0
import Derived.Test.YtnlcjindeoaklaaCell0
import Derived.Test.YtnlcjindeoaklaaSmath
set_option linter.unusedVariables false
set_option linter.unusedSimpArgs false
namespace Go.Proofs.Ytnlcjindeoaklaa
open Go.Ab

section
variable {X : XTab}

theorem nat_bits (b : Nat) : aNat Try.prog F_math_Float64bits [.flt .f64 b] = some (.int .u64 b) := by kernel_rfl

theorem nat_frombits (n : Int) : aNat Try.prog F_math_Float64frombits [.int .u64 n] = some (.flt .f64 n.toNat) := by kernel_rfl

def fl14 : List Nat := [0, 9223372036854775808, 4607182418800017408, 4609434218613702656, 4611686018427387904, 4613937818241073152, 13830554455654793216, 4591870180066957722, 9221120237041090561, 9218868437227405312, 18442240474082181120, 4845873199050653696, 4890909195324358656, 1]

theorem Copysign0 (hX : OnlyKnown X) (h : Heap) : Tells (fun q => acallX Try.prog X q F_math_Copysign [.flt .f64 0, .flt .f64 13830554455654793216] h) fun r h' => r = .flt .f64 9223372036854775808 ∧ h' = h := by
  refine R_math_Copysign _ _ (hX _ _ rfl) ?_
  unfold S_math_Copysign
  have e1 : ∀ t x y, aBin Try.prog .andNot t x y (.int .u64 0) (.int .u64 9223372036854775808) = some (.int .u64 0) := fun t x y => by kernel_rfl
  have e2 : ∀ t x y, aBin Try.prog .and t x y (.int .u64 13830554455654793216) (.int .u64 9223372036854775808) = some (.int .u64 9223372036854775808) := fun t x y => by kernel_rfl
  have e3 : ∀ t x y, aBin Try.prog .or t x y (.int .u64 0) (.int .u64 9223372036854775808) = some (.int .u64 9223372036854775808) := fun t x y => by kernel_rfl
  have n1 := nat_bits 0
  have n2 := nat_bits 13830554455654793216
  have n3 := nat_frombits 9223372036854775808
  simp at n1 n2 n3
  simp [n1, n2, e1, e2, e3, n3]
  exact Tells.ok ⟨rfl, rfl⟩

theorem NaN_ (hX : OnlyKnown X) (h : Heap) : Tells (fun q => acallX Try.prog X q F_math_NaN [] h) fun r h' => r = .flt .f64 9221120237041090561 ∧ h' = h := by
  refine R_math_NaN (hX _ _ rfl) ?_
  unfold S_math_NaN
  have n3 := nat_frombits 9221120237041090561
  simp at n3
  simp [n3]
  exact Tells.ok ⟨rfl, rfl⟩

theorem Inf_ (hX : OnlyKnown X) (s : Int) (h : Heap) : Tells (fun q => acallX Try.prog X q F_math_Inf [I s] h) fun r h' => r = .flt .f64 (if 0 ≤ s then 9218868437227405312 else 18442240474082181120) ∧ h' = h := by
  refine R_math_Inf _ (hX _ _ rfl) ?_
  unfold S_math_Inf
  have n3 := nat_frombits 9218868437227405312
  have n4 := nat_frombits 18442240474082181120
  simp at n3 n4
  by_cases q : 0 ≤ s
  · simp [q, J_math_Inf_0, n3]
    exact Tells.ok ⟨rfl, rfl⟩
  · simp [q, J_math_Inf_0, n4]
    exact Tells.ok ⟨rfl, rfl⟩

theorem FloatH (hX : OnlyKnown X) {h : Heap} {bf k : Nat} (f : Feed h bf k) (hk : k < 2 ^ 62) :
    Tells (fun q => acallX Try.prog X q F_precentorhand_Feed_Float [.ptr bf 0] h) fun r h' => ∃ x, r = .flt .f64 x ∧ x ∈ fl14 ∧ Ext [bf] h h' ∧ Feed h' bf (k + 1) := by
  refine R_precentorhand_Feed_Float _ (hX _ _ rfl) ?_
  refine Tells.prot fun Q' hQ => ?_
  unfold S_precentorhand_Feed_Float
  try simp
  refine Tells.bind (Copysign0 hX h) ?_
  rintro _ h ⟨rfl, rfl⟩
  try simp
  refine Tells.bind (NaN_ hX h) ?_
  rintro _ h ⟨rfl, rfl⟩
  try simp
  refine Tells.bind (Inf_ hX 1 h) ?_
  rintro _ h ⟨rfl, rfl⟩
  try simp
  refine Tells.bind (Inf_ hX (-1) h) ?_
  rintro _ h ⟨rfl, rfl⟩
  simp [bldR, fillR, splice]
  refine Tells.newSt (ds := fl14.map fun x => .flt .f64 x) (by rfl) (by rfl) (by rfl) (by rfl) fun h1 bl o1 x1 l1 => ?_
  try simp
  refine Tells.bind (Next hX 14 ⟨by decide, by decide⟩ (f.e x1) hk) ?_
  rintro _ h2 ⟨r, rfl, r0, r1, _, x2, f2⟩
  have r1 := r1 (by decide)
  obtain ⟨n, rfl⟩ : ∃ n : Nat, r = n := ⟨r.toNat, by omega⟩
  have hn : n < 14 := by omega
  have hp := ixp_at (len := 14) (z := 1) (b := bl) (o := 0) hn
  rw [Nat.mul_one] at hp
  have o2 := o1.ext x2 (by have := f.lt; simp; omega)
  obtain ⟨x, hx⟩ : ∃ x, fl14[n]? = some x := ⟨_, List.getElem?_eq_getElem (by simpa [fl14] using hn)⟩
  have hx2 : (fl14.map fun x => AVal.flt .f64 x)[n]? = some (.flt .f64 x) := by rw [List.getElem?_map, hx]; rfl
  rw [Nat.zero_add] at hp
  simp only [hp, of_some, arb_val, ld1_ptr, cell_eq, o2.1, hx2, lt_eq, retK_ret, resK_tmp, resK_nil, upd_same, one_one, bind_ok']
  exact Tells.ok (hQ _ _ ⟨x, rfl, List.mem_of_getElem? hx, x1.of.then x2 fun z hz => .inl hz, f2⟩)

end
end Go.Proofs.Ytnlcjindeoaklaa
