/-
  Law FloatTells: the walk.
-/
import Derived.Test.YtnlcjindeoaklaaFlO
import Derived.Test.YtnlcjindeoaklaaKnown0
import Derived.Test.YtnlcjindeoaklaaRow0
import Derived.Test.YtnlcjindeoaklaaArg0
import Derived.Test.YtnlcjindeoaklaaSprecentorlaw2
set_option linter.unusedVariables false
set_option linter.unusedSimpArgs false
set_option maxRecDepth 20000
namespace Go.Proofs.Ytnlcjindeoaklaa
open Go.Ab

theorem conv_if (h : Heap) (n : Int) : aConv Try.prog h 2 22 (I n) = .val (.flt .f64 (FloatKind.f64.nearest n)) h := by kernel_rfl

section
variable {X : XTab}

theorem ft3 (hX : OnlyKnown X) {t : T} {g : Heap} {a b : Nat} (t0 : t 0 = .flt .f64 a) (t1 : t 1 = .flt .f64 b) :
    Tells (fun m => J_precentorlaw2_FloatTells_3 Try.prog (acallX Try.prog X m) m (retK Try.prog [.tmp 10]) t g) fun r _ => r = .bool true := by
  have u4 := Try.underlying4
  unfold J_precentorlaw2_FloatTells_3
  try simp [t0, t1]
  refine Tells.bind (float_Bits hX a g) ?_
  rintro _ g ⟨rfl, rfl⟩
  try simp [t0, t1]
  refine Tells.bind (ref_Bits hX a g) ?_
  rintro _ g ⟨rfl, rfl⟩
  try simp [t0, t1]
  refine Tells.bind (float_Same hX a b g) ?_
  rintro _ g ⟨rfl, rfl⟩
  try simp [t0, t1]
  refine Tells.bind (ref_Bits hX a g) ?_
  rintro _ g ⟨rfl, rfl⟩
  try simp [t0, t1]
  refine Tells.bind (ref_Bits hX b g) ?_
  rintro _ g ⟨rfl, rfl⟩
  simp [u4]
  exact Tells.ok rfl

theorem ft2 (hX : OnlyKnown X) (hk : X F_precentorlaw2_known [] = some (.bool true)) {t : T} {g : Heap} {a b : Nat} {n : Int} {bits : Nat} (t0 : t 0 = .flt .f64 a) (t1 : t 1 = .flt .f64 b) (t2 : t 2 = I n) (t3 : t 3 = .int .u64 bits) (hn : In64 n) :
    Tells (fun m => J_precentorlaw2_FloatTells_2 Try.prog (acallX Try.prog X m) m (retK Try.prog [.tmp 10]) t g) fun r _ => r = .bool true := by
  have u4 := Try.underlying4
  unfold J_precentorlaw2_FloatTells_2
  try simp [t0, t1]
  refine Tells.bind (float_Cmp hX a b g) ?_
  rintro _ g ⟨rfl, rfl⟩
  try simp [t0, t1]
  refine Tells.bind (ref_Cmp hX a b g) ?_
  rintro _ g ⟨rfl, rfl⟩
  try simp [t1, t2]
  refine Tells.bind (float_CmpInt hX n hn b g) ?_
  rintro _ g ⟨rfl, rfl⟩
  try simp [t1, t2]
  refine Tells.bind (ref_CmpInt hX n hn b g) ?_
  rintro _ g ⟨rfl, rfl⟩
  try simp [t3]
  refine Tells.bind (float_Of hX bits g) ?_
  rintro _ g ⟨rfl, rfl⟩
  try simp [t3]
  refine Tells.bind (ref_Of hX bits g) ?_
  rintro _ g ⟨rfl, rfl⟩
  try simp
  refine Tells.bind (known_X hk g) ?_
  rintro _ g ⟨rfl, rfl⟩
  simp [u4, nat_bits]
  exact ft3 hX (a := a) (b := b) (by simp [t0]) (by simp [t1])

theorem floatTells_ (hX : OnlyKnown X) (hk : X F_precentorlaw2_known [] = some (.bool true)) (a : Nat) (ha : a < 18446744073709551616) (b : Nat) (hb : b < 18446744073709551616) (n : Int) (hn : In64 n) (bits : Nat) (hbits : bits < 18446744073709551616) {h : Heap} {v : AVal} {xs : List Int} (r : RawInts h v xs) :
    Tells (fun m => acallX Try.prog X m F_precentorlaw2_FloatTells [.flt .f64 a, .flt .f64 b, I n, .int .u64 bits, v] h) fun a _ => a = .bool true := by
  refine R_precentorlaw2_FloatTells _ _ _ _ _ (hX _ _ rfl) ?_
  refine Tells.prot fun Q' hQ => ?_
  unfold S_precentorlaw2_FloatTells
  simp [bldR, fillR, splice, r.sl.known, r.sl.cells]
  refine Tells.box rfl rfl fun h1 bf f1 x1 l1 => ?_
  have fd1 : Feed h1 bf 0 := ⟨_, 0, xs, f1, by omega, by omega, (r.ext x1).sl, r.small, (r.ext x1).old⟩
  have j1 : ∀ {t : T} {g : Heap} {a b : Nat} {k : Nat}, t 0 = .flt .f64 a → t 1 = .flt .f64 b → t 2 = I n → t 3 = .int .u64 bits → t 11 = .ptr bf 0 → Feed g bf k → k < 100 →
      Tells (fun m => J_precentorlaw2_FloatTells_1 Try.prog (acallX Try.prog X m) m (retK Try.prog [.tmp 10]) t g) Q' := by
    intro t g a b k t0 t1 t2 t3 t11 f hk1
    unfold J_precentorlaw2_FloatTells_1
    simp [t11]
    refine Tells.bind (Next hX 3 ⟨by omega, by omega⟩ f (by omega)) ?_
    rintro _ g2 ⟨c, rfl, c0, c1, _, x2, f2⟩
    by_cases hc : c = 0
    · subst hc
      simp [t0, nat_bits]
      exact (ft2 hX hk (a := a) (b := b) (n := n) (bits := a) (by simp [t0]) (by simp [t1]) (by simp [t2]) (by simp) hn).mono fun r h q => hQ _ _ q
    · have bc : (c == 0) = false := beq_eq_false_iff_ne.2 hc
      simp [bc]
      exact (ft2 hX hk (a := a) (b := b) (n := n) (bits := bits) (by simp [t0]) (by simp [t1]) (by simp [t2]) (by simp [t3]) hn).mono fun r h q => hQ _ _ q
  have j0 : ∀ {t : T} {g : Heap} {a b : Nat} {k : Nat}, t 0 = .flt .f64 a → t 1 = .flt .f64 b → t 2 = I n → t 3 = .int .u64 bits → t 11 = .ptr bf 0 → Feed g bf k → k < 90 →
      Tells (fun m => J_precentorlaw2_FloatTells_0 Try.prog (acallX Try.prog X m) m (retK Try.prog [.tmp 10]) t g) Q' := by
    intro t g a b k t0 t1 t2 t3 t11 f hk1
    unfold J_precentorlaw2_FloatTells_0
    simp [t11]
    refine Tells.bind (Next hX 3 ⟨by omega, by omega⟩ f (by omega)) ?_
    rintro _ g2 ⟨c, rfl, c0, c1, _, x2, f2⟩
    by_cases hc : c = 0
    · subst hc
      simp [t2, conv_if]
      exact j1 (a := a) (b := FloatKind.f64.nearest n) (by simp [t0]) (by simp) (by simp [t2]) (by simp [t3]) (by simp [t11]) f2 (by omega)
    · have bc : (c == 0) = false := beq_eq_false_iff_ne.2 hc
      simp [bc]
      exact j1 (a := a) (b := b) (by simp [t0]) (by simp [t1]) (by simp [t2]) (by simp [t3]) (by simp [t11]) f2 (by omega)
  try simp
  refine Tells.bind (Next hX 2 ⟨by omega, by omega⟩ fd1 (by omega)) ?_
  rintro _ h2 ⟨c, rfl, c0, c1, _, x2, f2⟩
  by_cases hc : c = 1
  · subst hc
    simp
    refine Tells.bind (FloatH hX f2 (by omega)) ?_
    rintro _ h3 ⟨y, rfl, hy, x3, f3⟩
    try simp
    refine Tells.bind (FloatH hX f3 (by omega)) ?_
    rintro _ h4 ⟨z, rfl, hz, x4, f4⟩
    try simp
    exact j0 (a := y) (b := z) (by simp) (by simp) (by simp) (by simp) (by simp) f4 (by omega)
  · have bc : (c == 1) = false := beq_eq_false_iff_ne.2 hc
    simp [bc]
    exact j0 (a := a) (b := b) (by simp) (by simp) (by simp) (by simp) (by simp) f2 (by omega)
end
end Go.Proofs.Ytnlcjindeoaklaa
