/-
  Texts of a claim, merged: Law3c.
-/
import Derived.Test.YtjoniicebjpdaaaM0
set_option linter.unusedVariables false
set_option linter.unusedSimpArgs false
/-! Law ValueTells: the walk. -/
set_option maxRecDepth 20000
namespace Go.Proofs.Ytjoniicebjpdaaa
open Go.Ab

section
variable {X : XTab}

theorem value_Int (hX : OnlyKnown X) (n : Int) (h : Heap) : Tells (fun q => acallX Try.prog X q F_value_Int [I n] h) fun r h' => r = .agg (vlC ⟨1, n, 0, bs [], false⟩) ∧ Ext [] h h' := by
  refine R_value_Int _ (hX _ _ rfl) ?_
  refine Tells.prot fun Q' hQ => ?_
  unfold S_value_Int
  try simp
  refine Tells.new fun h1 b1 o1 x1 l1 => ?_
  simp [bldR, fillR, splice]
  refine Tells.stN o1 (ds := vlC ⟨1, n, 0, bs [], false⟩) (by rfl) (by rfl) (by rfl) (by rfl) fun h2 o2 x2 => ?_
  simp [C_value_Int_0, o2.1, l5, t5]
  exact Tells.ok (hQ _ _ ⟨rfl, x1.then x2 (by simp; omega)⟩)

theorem value_Float (hX : OnlyKnown X) (x : Nat) (h : Heap) : Tells (fun q => acallX Try.prog X q F_value_Float [.flt .f64 x] h) fun r h' => r = .agg (vlC ⟨2, 0, x, bs [], false⟩) ∧ Ext [] h h' := by
  refine R_value_Float _ (hX _ _ rfl) ?_
  refine Tells.prot fun Q' hQ => ?_
  unfold S_value_Float
  try simp
  refine Tells.new fun h1 b1 o1 x1 l1 => ?_
  simp [bldR, fillR, splice]
  refine Tells.stN o1 (ds := vlC ⟨2, 0, x, bs [], false⟩) (by rfl) (by rfl) (by rfl) (by rfl) fun h2 o2 x2 => ?_
  simp [C_value_Float_0, o2.1, l5, t5]
  exact Tells.ok (hQ _ _ ⟨rfl, x1.then x2 (by simp; omega)⟩)

theorem value_Text (hX : OnlyKnown X) (s : ByteArray) (h : Heap) : Tells (fun q => acallX Try.prog X q F_value_Text [.str s] h) fun r h' => r = .agg (vlC ⟨3, 0, 0, s, false⟩) ∧ Ext [] h h' := by
  refine R_value_Text _ (hX _ _ rfl) ?_
  refine Tells.prot fun Q' hQ => ?_
  unfold S_value_Text
  try simp
  refine Tells.new fun h1 b1 o1 x1 l1 => ?_
  simp [bldR, fillR, splice]
  refine Tells.stN o1 (ds := vlC ⟨3, 0, 0, s, false⟩) (by rfl) (by rfl) (by rfl) (by rfl) fun h2 o2 x2 => ?_
  simp [C_value_Text_0, o2.1, l5, t5]
  exact Tells.ok (hQ _ _ ⟨rfl, x1.then x2 (by simp; omega)⟩)

theorem value_Bool (hX : OnlyKnown X) (b : Bool) (h : Heap) : Tells (fun q => acallX Try.prog X q F_value_Bool [.bool b] h) fun r h' => r = .agg (vlC ⟨4, 0, 0, bs [], b⟩) ∧ Ext [] h h' := by
  refine R_value_Bool _ (hX _ _ rfl) ?_
  refine Tells.prot fun Q' hQ => ?_
  unfold S_value_Bool
  try simp
  refine Tells.new fun h1 b1 o1 x1 l1 => ?_
  simp [bldR, fillR, splice]
  refine Tells.stN o1 (ds := vlC ⟨4, 0, 0, bs [], b⟩) (by rfl) (by rfl) (by rfl) (by rfl) fun h2 o2 x2 => ?_
  simp [C_value_Bool_0, o2.1, l5, t5]
  exact Tells.ok (hQ _ _ ⟨rfl, x1.then x2 (by simp; omega)⟩)


theorem vt2 (hX : OnlyKnown X) {t : T} {g : Heap} {n : Int} {x : Nat} {s : ByteArray} {b : Bool} (t3 : t 3 = I n) (t4 : t 4 = .flt .f64 x) (t5' : t 5 = .str s) (t6 : t 6 = .bool b) :
    Tells (fun m => J_precentorlaw3_ValueTells_2 Try.prog (acallX Try.prog X m) m (retK Try.prog [.tmp 14]) t g) fun r _ => r = .bool true := by
  unfold J_precentorlaw3_ValueTells_2
  simp [t3]
  refine Tells.bind (value_Int hX n g) ?_
  rintro _ g1 ⟨rfl, y1⟩
  simp [t4]
  refine Tells.bind (value_Float hX x g1) ?_
  rintro _ g2 ⟨rfl, y2⟩
  simp [t5']
  refine Tells.bind (value_Text hX s g2) ?_
  rintro _ g3 ⟨rfl, y3⟩
  simp [t6]
  refine Tells.bind (value_Bool hX b g3) ?_
  rintro _ g4 ⟨rfl, y4⟩
  try simp
  refine Tells.new fun h1 bA oA x1 l1 => ?_
  try simp
  refine Tells.new fun h2 bB oB x2 l2 => ?_
  try simp
  refine Tells.new fun h3 bC oC x3 l3 => ?_
  try simp
  refine Tells.new fun h4 bD oD x4 l4 => ?_
  have nAB : bA ≠ bB := by have := oA.lt; omega
  have nAC : bA ≠ bC := by have := oA.lt; have := x2.next; omega
  have nAD : bA ≠ bD := by have := oA.lt; have := x2.next; have := x3.next; omega
  have nBC : bB ≠ bC := by have := oB.lt; omega
  have nBD : bB ≠ bD := by have := oB.lt; have := x3.next; omega
  have nCD : bC ≠ bD := by have := oC.lt; omega
  have oA4 := ((oA.e x2).e x3).e x4
  have oB4 := (oB.e x3).e x4
  have oC4 := oC.e x4
  try simp
  refine Tells.stN oA4 (ds := vlC ⟨1, n, 0, bs [], false⟩) (by rfl) (by rfl) (by rfl) (by rfl) fun h5 oA5 x5 => ?_
  have oB5 := oB4.ext x5 (by simpa using Ne.symm nAB)
  have oC5 := oC4.ext x5 (by simpa using Ne.symm nAC)
  have oD5 := oD.ext x5 (by simpa using Ne.symm nAD)
  try simp
  refine Tells.stN oB5 (ds := vlC ⟨2, 0, x, bs [], false⟩) (by rfl) (by rfl) (by rfl) (by rfl) fun h6 oB6 x6 => ?_
  have oA6 := oA5.ext x6 (by simpa using nAB)
  have oC6 := oC5.ext x6 (by simpa using Ne.symm nBC)
  have oD6 := oD5.ext x6 (by simpa using Ne.symm nBD)
  try simp
  refine Tells.stN oC6 (ds := vlC ⟨3, 0, 0, s, false⟩) (by rfl) (by rfl) (by rfl) (by rfl) fun h7 oC7 x7 => ?_
  have oA7 := oA6.ext x7 (by simpa using nAC)
  have oB7 := oB6.ext x7 (by simpa using nBC)
  have oD7 := oD6.ext x7 (by simpa using Ne.symm nCD)
  try simp
  refine Tells.stN oD7 (ds := vlC ⟨4, 0, 0, bs [], b⟩) (by rfl) (by rfl) (by rfl) (by rfl) fun h8 oD8 x8 => ?_
  have oA8 := oA7.ext x8 (by simpa using nAD)
  have oB8 := oB7.ext x8 (by simpa using nBD)
  have oC8 := oC7.ext x8 (by simpa using nCD)
  simp [oA8.1, l5, t5, t3, bldR, fillR, splice]
  refine Tells.bind (ref_SameValue hX ⟨1, n, 0, bs [], false⟩ ⟨1, n, 0, bs [], false⟩ h8) ?_
  rintro _ h9 ⟨rfl, x9⟩
  have oB9 := oB8.e x9
  simp [sameV_self, oB9.1, l5, t5, t4, bldR, fillR, splice]
  refine Tells.bind (ref_SameValue hX ⟨2, 0, x, bs [], false⟩ ⟨2, 0, x, bs [], false⟩ h9) ?_
  rintro _ h10 ⟨rfl, x10⟩
  have oC10 := (oC8.e x9).e x10
  simp [sameV_self, oC10.1, l5, t5, t5', bldR, fillR, splice]
  refine Tells.bind (ref_SameValue hX ⟨3, 0, 0, s, false⟩ ⟨3, 0, 0, s, false⟩ h10) ?_
  rintro _ h11 ⟨rfl, x11⟩
  have oD11 := ((oD8.e x9).e x10).e x11
  simp [sameV_self, oD11.1, l5, t5, t6, bldR, fillR, splice]
  refine Tells.bind (ref_SameValue hX ⟨4, 0, 0, bs [], b⟩ ⟨4, 0, 0, bs [], b⟩ h11) ?_
  rintro _ h12 ⟨rfl, x12⟩
  simp [sameV_self]
  exact Tells.ok rfl

theorem vt1 (hX : OnlyKnown X) (hk : X F_precentorlaw3_known [] = some (.bool true)) {t : T} {g : Heap} {ba bb : Nat} {a b : Vl} (ha : In64 a.n) (hb : In64 b.n) (t7 : t 7 = .ptr ba 0) (t8 : t 8 = .ptr bb 0) (oA : Ob g ba (vlC a)) (oB : Ob g bb (vlC b))
    {n : Int} {x : Nat} {s : ByteArray} {q : Bool} (t3 : t 3 = I n) (t4 : t 4 = .flt .f64 x) (t5' : t 5 = .str s) (t6 : t 6 = .bool q) :
    Tells (fun m => J_precentorlaw3_ValueTells_1 Try.prog (acallX Try.prog X m) m (retK Try.prog [.tmp 14]) t g) fun r _ => r = .bool true := by
  have u4 := Try.underlying4
  unfold J_precentorlaw3_ValueTells_1
  simp [t7, t8, oA.1, oB.1, l5, t5]
  refine Tells.bind (value_Cmp hX a b ha hb g) ?_
  rintro _ g1 ⟨rfl, y1⟩
  have oA1 := oA.e y1
  have oB1 := oB.e y1
  simp [t7, t8, oA1.1, oB1.1, l5, t5]
  refine Tells.bind (ref_CmpValue hX a b ha hb g1) ?_
  rintro _ g2 ⟨rfl, y2⟩
  have oA2 := oA1.e y2
  have oB2 := oB1.e y2
  try simp
  refine Tells.cbE (known_X hk g2) ?_
  rintro _ g2 ⟨rfl, rfl⟩
  simp [u4, t7, t8, oA2.1, oB2.1, l5, t5]
  refine Tells.cbE (value_RightG hX a g2) ?_
  rintro _ g3 ⟨rfl, y3⟩
  have oA3 := oA2.e y3
  have oB3 := oB2.e y3
  simp [u4, t7, t8, oA2.1, oB2.1, oA3.1, oB3.1, l5, t5]
  refine Tells.cbE (ref_RightValue hX a g3) ?_
  rintro _ g4 ⟨rfl, y4⟩
  have oA4 := oA3.e y4
  have oB4 := oB3.e y4
  simp [u4, t7, t8, oA3.1, oB3.1, oA4.1, oB4.1, l5, t5]
  refine Tells.cbE (value_Same hX a b g4) ?_
  rintro _ g5 ⟨rfl, y5⟩
  have oA5 := oA4.e y5
  have oB5 := oB4.e y5
  simp [u4, t7, t8, oA4.1, oB4.1, oA5.1, oB5.1, l5, t5]
  refine Tells.cbE (ref_SameValue hX a b g5) ?_
  rintro _ g6 ⟨rfl, y6⟩
  have oA6 := oA5.e y6
  have oB6 := oB5.e y6
  simp [u4, t7, t8, oA5.1, oB5.1, oA6.1, oB6.1, l5, t5]
  refine Tells.cbE (value_Is hX a b ha hb g6) ?_
  rintro _ g7 ⟨rfl, y7⟩
  have oA7 := oA6.e y7
  have oB7 := oB6.e y7
  simp [u4, t7, t8, oA6.1, oB6.1, oA7.1, oB7.1, l5, t5]
  refine Tells.cbE (ref_Is hX a b ha hb g7) ?_
  rintro _ g8 ⟨rfl, y8⟩
  simp [u4]
  exact vt2 hX (n := n) (x := x) (s := s) (b := q) (by simp [t3]) (by simp [t4]) (by simp [t5']) (by simp [t6])

theorem valueTells_ (hX : OnlyKnown X) (hk : X F_precentorlaw3_known [] = some (.bool true)) (a : Vl) (ha : In64 a.n) (b : Vl) (hb : In64 b.n) {h : Heap} {v : AVal} {xs : List Int} (r : RawInts h v xs) (n : Int) (hn : In64 n) (x : Nat) (hx : x < 18446744073709551616) (s : ByteArray) (hs : s.size < 2 ^ 63) (q : Bool) :
    Tells (fun m => acallX Try.prog X m F_precentorlaw3_ValueTells [.agg (vlC a), .agg (vlC b), v, I n, .flt .f64 x, .str s, .bool q] h) fun a _ => a = .bool true := by
  refine R_precentorlaw3_ValueTells _ _ _ _ _ _ _ (hX _ _ rfl) ?_
  refine Tells.prot fun Q' hQ => ?_
  have u4 := Try.underlying4
  unfold S_precentorlaw3_ValueTells
  try simp
  refine Tells.box rfl rfl fun h0 bA oA x0 l0 => ?_
  have oA : Ob h0 bA (vlC a) := oA
  try simp
  refine Tells.box rfl rfl fun h1 bB oB x1 l1 => ?_
  have oB : Ob h1 bB (vlC b) := oB
  have oA1 := oA.e x1
  have r1 := (r.ext x0).ext x1
  simp [bldR, fillR, splice, r1.sl.known, r1.sl.cells]
  refine Tells.box rfl rfl fun h2 bf f2 x2 l2 => ?_
  have fd2 : Feed h2 bf 0 := ⟨_, 0, xs, f2, by omega, by omega, (r1.ext x2).sl, r1.small, (r1.ext x2).old⟩
  have nAB : bA ≠ bB := by have := oA.lt; omega
  have nAf : bA ≠ bf := by have := oA1.lt; omega
  have nBf : bB ≠ bf := by have := oB.lt; omega
  have oA2 := oA1.e x2
  have oB2 := oB.e x2
  have j0 : ∀ {t : T} {g : Heap} {a b : Vl} {k : Nat}, In64 a.n → In64 b.n → t 7 = .ptr bA 0 → t 8 = .ptr bB 0 → t 15 = .ptr bf 0 → Ob g bA (vlC a) → Ob g bB (vlC b) → Feed g bf k → k < 100 → t 3 = I n → t 4 = .flt .f64 x → t 5 = .str s → t 6 = .bool q →
      Tells (fun m => J_precentorlaw3_ValueTells_0 Try.prog (acallX Try.prog X m) m (retK Try.prog [.tmp 14]) t g) Q' := by
    intro t g a b k ha hb t7 t8 t15 oA oB f hk1 t3 t4 t5' t6
    unfold J_precentorlaw3_ValueTells_0
    simp [t15]
    refine Tells.bind (Next hX 4 ⟨by omega, by omega⟩ f (by omega)) ?_
    rintro _ g2 ⟨c, rfl, c0, c1, _, y2, f2⟩
    have oA2 := oA.ext y2 (by simpa using nAf)
    have oB2 := oB.ext y2 (by simpa using nBf)
    by_cases hc : c = 0
    · subst hc
      simp [t7, t8, oA2.1, l5, t5]
      refine Tells.stN oB2 (ds := vlC a) (by rfl) (by rfl) (by rfl) (by rfl) fun g3 oB3 y3 => ?_
      have oA3 := oA2.ext y3 (by simpa using nAB)
      try simp
      exact (vt1 hX hk (a := a) (b := a) (n := n) (x := x) (s := s) (q := q) ha ha (by simp [t7]) (by simp [t8]) oA3 oB3 (by simp [t3]) (by simp [t4]) (by simp [t5']) (by simp [t6])).mono fun r h z => hQ _ _ z
    · have bc : (c == 0) = false := beq_eq_false_iff_ne.2 hc
      simp [bc]
      exact (vt1 hX hk (a := a) (b := b) (n := n) (x := x) (s := s) (q := q) ha hb (by simp [t7]) (by simp [t8]) oA2 oB2 (by simp [t3]) (by simp [t4]) (by simp [t5']) (by simp [t6])).mono fun r h z => hQ _ _ z
  try simp
  refine Tells.bind (Next hX 2 ⟨by omega, by omega⟩ fd2 (by omega)) ?_
  rintro _ h3 ⟨c, rfl, c0, c1, _, x3, f3⟩
  have oA3 := oA2.ext x3 (by simpa using nAf)
  have oB3 := oB2.ext x3 (by simpa using nBf)
  by_cases hc : c = 1
  · subst hc
    simp
    refine Tells.bind (ValueH hX f3 (by omega)) ?_
    rintro _ h4 ⟨y, rfl, fy, x4, f4⟩
    try simp
    refine Tells.bind (ValueH hX f4 (by omega)) ?_
    rintro _ h5 ⟨z, rfl, fz, x5, f5⟩
    have oA5 := (oA3.ext x4 (by simpa using nAf)).ext x5 (by simpa using nAf)
    have oB5 := (oB3.ext x4 (by simpa using nBf)).ext x5 (by simpa using nBf)
    try simp
    refine Tells.stN oA5 (ds := vlC y) (by rfl) (by rfl) (by rfl) (by rfl) fun h6 oA6 x6 => ?_
    have oB6 := oB5.ext x6 (by simpa using Ne.symm nAB)
    have f6 := f5.ext x6 (by simpa using Ne.symm nAf)
    try simp
    refine Tells.stN oB6 (ds := vlC z) (by rfl) (by rfl) (by rfl) (by rfl) fun h7 oB7 x7 => ?_
    have oA7 := oA6.ext x7 (by simpa using nAB)
    have f7 := f6.ext x7 (by simpa using Ne.symm nBf)
    try simp
    exact j0 (a := y) (b := z) (fed_in fy) (fed_in fz) (by simp) (by simp) (by simp) oA7 oB7 f7 (by omega) (by simp) (by simp) (by simp) (by simp; rfl)
  · have bc : (c == 1) = false := beq_eq_false_iff_ne.2 hc
    simp [bc]
    exact j0 (a := a) (b := b) ha hb (by simp) (by simp) (by simp) oA3 oB3 f3 (by omega) (by simp) (by simp) (by simp) (by simp; rfl)
end
end Go.Proofs.Ytjoniicebjpdaaa
