/-
  Law ValueOrder: the walk.
-/
import Derived.Test.YtjoniicebjpdaaaValO
import Derived.Test.YtjoniicebjpdaaaKnown0
import Derived.Test.YtjoniicebjpdaaaRow0
import Derived.Test.YtjoniicebjpdaaaArg0
import Derived.Test.YtjoniicebjpdaaaSprecentorlaw3
set_option linter.unusedVariables false
set_option linter.unusedSimpArgs false
set_option maxRecDepth 20000
namespace Go.Proofs.Ytjoniicebjpdaaa
open Go.Ab

theorem l5 (v : Vl) : (vlC v).length = 5 := rfl
theorem t5 (v : Vl) : (vlC v).take 5 = vlC v := rfl
theorem cmpK_zero (a b : Option (Nat × Int)) : ((cmpK a b).2 && (cmpK a b).1 == 0) = true → a = b := by
  rcases a with _ | ⟨c, p⟩ <;> rcases b with _ | ⟨d, q⟩ <;> simp [cmpK]
  by_cases h : c = d
  · rcases sgI_three p q with ⟨e, c1⟩ | ⟨e, c1⟩ | ⟨e, c1⟩
    · simp [h, e]
    · simp [h, c1]
    · simp [h, e]
  · simp [h]

section
variable {X : XTab}

theorem vo1 (hX : OnlyKnown X) {t : T} {g : Heap} {ba bb : Nat} {a b : Vl} (ha : In64 a.n) (hb : In64 b.n) (t4 : t 4 = .ptr ba 0) (t5' : t 5 = .ptr bb 0) (gA : g.get ba = some (vlC a)) (gB : g.get bb = some (vlC b)) (t7 : t 7 = I (cmpV a b).1) (t8 : t 8 = .bool (cmpV a b).2) :
    Tells (fun m => J_precentorlaw3_ValueOrder_1 Try.prog (acallX Try.prog X m) m (retK Try.prog [.tmp 2]) t g) fun r _ => r = .bool true := by
  have u4 := Try.underlying4
  unfold J_precentorlaw3_ValueOrder_1
  simp [t4, t5', gA, gB, l5, t5]
  refine Tells.bind (value_Is hX a b ha hb g) ?_
  rintro _ g2 ⟨rfl, x2⟩
  cases e : (cmpV a b).2 with
  | true =>
    rw [e] at t8
    simp [t7, t8, u4]
    exact Tells.ok rfl
  | false =>
    rw [e] at t8
    simp [t7, t8, u4]
    exact Tells.ok rfl

theorem vo0 (hX : OnlyKnown X) {t : T} {g : Heap} {ba bb : Nat} {a b c : Vl} (ha : In64 a.n) (hb : In64 b.n) (t4 : t 4 = .ptr ba 0) (t5' : t 5 = .ptr bb 0) (gA : g.get ba = some (vlC a)) (gB : g.get bb = some (vlC b)) (fa : FedV a) (fb : FedV b) (fc : FedV c)
    (t7 : t 7 = I (cmpV a b).1) (t8 : t 8 = .bool (cmpV a b).2) (t11 : t 11 = I (cmpV b c).1) (t12 : t 12 = .bool (cmpV b c).2) (t13 : t 13 = I (cmpV a c).1) (t14 : t 14 = .bool (cmpV a c).2) :
    Tells (fun m => J_precentorlaw3_ValueOrder_0 Try.prog (acallX Try.prog X m) m (retK Try.prog [.tmp 2]) t g) fun r _ => r = .bool true := by
  have fin : ∀ t' : T, t' 4 = t 4 → t' 5 = t 5 → t' 7 = t 7 → t' 8 = t 8 → Tells (fun m => J_precentorlaw3_ValueOrder_1 Try.prog (acallX Try.prog X m) m (retK Try.prog [.tmp 2]) t' g) fun r _ => r = .bool true :=
    fun t' e4 e5 e7 e8 => vo1 hX ha hb (by rw [e4, t4]) (by rw [e5, t5']) gA gB (by rw [e7, t7]) (by rw [e8, t8])
  have law := cmpK_three (fk a) (fk b) (fk c)
  rw [← cmpV_fed fa fb, ← cmpV_fed fb fc, ← cmpV_fed fa fc] at law
  unfold J_precentorlaw3_ValueOrder_0
  cases e1 : (cmpV a b).2 with
  | false =>
    rw [e1] at t8
    simp [t8]
    exact fin _ (by simp) (by simp) (by simp) (by simp [t8])
  | true =>
    rw [e1] at t8
    cases e2 : (cmpV b c).2 with
    | false =>
      rw [e2] at t12
      simp [t8, t12]
      exact fin _ (by simp) (by simp) (by simp) (by simp [t8])
    | true =>
      rw [e2] at t12
      obtain ⟨l1, l2, l3⟩ := law e1 e2
      rw [l1] at t14
      have i1 := cmpK_in (fk a) (fk b)
      have i2 := cmpK_in (fk b) (fk c)
      rw [← cmpV_fed fa fb] at i1
      rw [← cmpV_fed fb fc] at i2
      generalize (cmpV a b).1 = p at *
      generalize (cmpV b c).1 = r at *
      generalize (cmpV a c).1 = s at *
      have three : ∀ z : Int, -1 ≤ z ∧ z ≤ 1 → z = -1 ∨ z = 0 ∨ z = 1 := fun z h => by omega
      rcases three p i1 with rfl | rfl | rfl <;> rcases three r i2 with rfl | rfl | rfl
      · have hs := l2 (by omega) (by omega)
        subst hs
        simp [t8, t12, t14, t7, t11, t13]
        exact fin _ (by simp) (by simp) (by simp [t7]) (by simp [t8])
      · have hs := l2 (by omega) (by omega)
        subst hs
        simp [t8, t12, t14, t7, t11, t13]
        exact fin _ (by simp) (by simp) (by simp [t7]) (by simp [t8])
      · simp [t8, t12, t14, t7, t11, t13]
        exact fin _ (by simp) (by simp) (by simp [t7]) (by simp [t8])
      · have hs := l2 (by omega) (by omega)
        subst hs
        simp [t8, t12, t14, t7, t11, t13]
        exact fin _ (by simp) (by simp) (by simp [t7]) (by simp [t8])
      · have hs := l2 (by omega) (by omega)
        subst hs
        simp [t8, t12, t14, t7, t11, t13]
        exact fin _ (by simp) (by simp) (by simp [t7]) (by simp [t8])
      · have hs := l3 (by omega) (by omega)
        subst hs
        simp [t8, t12, t14, t7, t11, t13]
        exact fin _ (by simp) (by simp) (by simp [t7]) (by simp [t8])
      · simp [t8, t12, t14, t7, t11, t13]
        exact fin _ (by simp) (by simp) (by simp [t7]) (by simp [t8])
      · have hs := l3 (by omega) (by omega)
        subst hs
        simp [t8, t12, t14, t7, t11, t13]
        exact fin _ (by simp) (by simp) (by simp [t7]) (by simp [t8])
      · have hs := l3 (by omega) (by omega)
        subst hs
        simp [t8, t12, t14, t7, t11, t13]
        exact fin _ (by simp) (by simp) (by simp [t7]) (by simp [t8])

theorem valueOrder_ (hX : OnlyKnown X) (hk : X F_precentorlaw3_known [] = some (.bool true)) {h : Heap} {v : AVal} {xs : List Int} (r : RawInts h v xs) :
    Tells (fun m => acallX Try.prog X m F_precentorlaw3_ValueOrder [v] h) fun a _ => a = .bool true := by
  refine R_precentorlaw3_ValueOrder _ (hX _ _ rfl) ?_
  refine Tells.prot fun Q' hQ => ?_
  have u4 := Try.underlying4
  unfold S_precentorlaw3_ValueOrder
  simp [bldR, fillR, splice, r.sl.known, r.sl.cells]
  refine Tells.box rfl rfl fun h1 bf f1 x1 l1 => ?_
  have fd1 : Feed h1 bf 0 := ⟨_, 0, xs, f1, by omega, by omega, (r.ext x1).sl, r.small, (r.ext x1).old⟩
  try simp
  refine Tells.bind (ValueH hX fd1 (by omega)) ?_
  rintro _ h2 ⟨a, rfl, fa, x2, f2⟩
  try simp
  refine Tells.bind (ValueH hX f2 (by omega)) ?_
  rintro _ h3 ⟨b, rfl, fb, x3, f3⟩
  try simp
  refine Tells.bind (ValueH hX f3 (by omega)) ?_
  rintro _ h4 ⟨c, rfl, fc, x4, f4⟩
  try simp
  refine Tells.new fun h5 bA oA x5 l5' => ?_
  try simp
  refine Tells.new fun h6 bB oB x6 l6 => ?_
  try simp
  refine Tells.new fun h7 bC oC x7 l7 => ?_
  have nAB : bA ≠ bB := by have := oA.lt; omega
  have nAC : bA ≠ bC := by have := oA.lt; have := x6.next; omega
  have nBC : bB ≠ bC := by have := oB.lt; omega
  have oA7 := (oA.e x6).e x7
  have oB7 := oB.e x7
  try simp
  refine Tells.stN oA7 (ds := vlC a) (by rfl) (by rfl) (by rfl) (by rfl) fun h8 oA8 x8 => ?_
  have oB8 := oB7.ext x8 (by simpa using Ne.symm nAB)
  have oC8 := oC.ext x8 (by simpa using Ne.symm nAC)
  try simp
  refine Tells.stN oB8 (ds := vlC b) (by rfl) (by rfl) (by rfl) (by rfl) fun h9 oB9 x9 => ?_
  have oA9 := oA8.ext x9 (by simpa using nAB)
  have oC9 := oC8.ext x9 (by simpa using Ne.symm nBC)
  try simp
  refine Tells.stN oC9 (ds := vlC c) (by rfl) (by rfl) (by rfl) (by rfl) fun g oCg x10 => ?_
  have oAg := oA9.ext x10 (by simpa using nAC)
  have oBg := oB9.ext x10 (by simpa using nBC)
  simp [oAg.1, oBg.1, l5, t5]
  refine Tells.bind (value_Cmp hX a b (fed_in fa) (fed_in fb) g) ?_
  rintro _ g1 ⟨rfl, y1⟩
  have oA1 := oAg.e y1
  have oB1 := oBg.e y1
  have oC1 := oCg.e y1
  simp [oA1.1, oB1.1, l5, t5]
  refine Tells.bind (value_Cmp hX b a (fed_in fb) (fed_in fa) g1) ?_
  rintro _ g2 ⟨rfl, y2⟩
  have oA2 := oA1.e y2
  have oB2 := oB1.e y2
  have oC2 := oC1.e y2
  simp [oC2.1, oB2.1, l5, t5]
  refine Tells.bind (value_Cmp hX b c (fed_in fb) (fed_in fc) g2) ?_
  rintro _ g3 ⟨rfl, y3⟩
  have oA3 := oA2.e y3
  have oB3 := oB2.e y3
  have oC3 := oC2.e y3
  simp [oC3.1, oA3.1, l5, t5]
  refine Tells.bind (value_Cmp hX a c (fed_in fa) (fed_in fc) g3) ?_
  rintro _ g4 ⟨rfl, y4⟩
  have oA4 := oA3.e y4
  have oB4 := oB3.e y4
  try simp
  refine Tells.bind (known_X hk g4) ?_
  rintro _ g4 ⟨rfl, rfl⟩
  have sw : cmpV b a = (-(cmpV a b).1, (cmpV a b).2) := by rw [cmpV_fed fb fa, cmpV_fed fa fb, cmpK_swap (fk a) (fk b)]
  have w : IntKind.i64.wrap (cmpV a b).1 = (cmpV a b).1 := by
    have := cmpK_in (fk a) (fk b)
    rw [← cmpV_fed fa fb] at this
    exact wrap_id (by omega) (by omega)
  rw [sw]
  simp [un_neg, w, u4]
  refine (vo0 hX (a := a) (b := b) (c := c) (ba := bA) (bb := bB) (fed_in fa) (fed_in fb) (by simp) (by simp) oA4.1 oB4.1 fa fb fc (by simp) (by simp) (by simp) (by simp) (by simp) (by simp)).mono fun r h q => hQ _ _ q
end
end Go.Proofs.Ytjoniicebjpdaaa
