/-
  Law ConfigGrows: the walk.
-/
import Derived.Test.YthhfeoilnkmnkaaLaw10a
set_option linter.unusedVariables false
set_option linter.unusedSimpArgs false
namespace Go.Proofs.Ythhfeoilnkmnkaa
open Go.Ab

section
variable {X : XTab}

theorem rightT_of {ys : List Int} (h : TreeOk ys) (hl : ys.length ≤ 7) : rightT ys = true := by
  unfold rightT
  rw [Bool.and_eq_true, decide_eq_true_eq, rightFrom_all]
  exact ⟨fun i x hx => by have := h i x hx; simpa using this, hl⟩
theorem nB_of {ys : List Int} (h : TreeOk ys) (hl : ys.length ≤ 7) {w r q f s : Int} (g : good w r q f s) : nB ys w r q f s = ys.length + 1 := by
  unfold nB
  rw [if_pos (errC_zero.2 ⟨rightT_of h hl, g⟩)]
theorem roomC_of {ys : List Int} (h : TreeOk ys) (hl : ys.length ≤ 7) {w r q f s : Int} (g : good w r q f s) : roomC ys w r q f s = (ys.length + 1) * f * (ys.length + 1 + 1) + 6 + (ys.length + 1) + 2 := by
  unfold roomC
  rw [nB_of h hl g, if_neg (by omega)]

/-- What objects and rows there are, through what touches none. -/
structure Grow (h : Heap) (bc bd be : Nat) (C D E : List AVal) (p s : AVal) (ys zs : List Int) : Prop where
  c : Ob h bc C
  d : Ob h bd D
  e : Ob h be E
  y : Sl intR h p ys
  z : Sl intR h s zs
theorem Grow.ext {h h' : Heap} {bc bd be : Nat} {C D E : List AVal} {p s : AVal} {ys zs : List Int} (g : Grow h bc bd be C D E p s ys zs) (x : Ext [] h h') : Grow h' bc bd be C D E p s ys zs := ⟨g.c.e x, g.d.e x, g.e.e x, g.y.ext x, g.z.ext x⟩

theorem growArith {n f : Int} (h1 : 1 ≤ n ∧ n ≤ 8) (hf : 1 ≤ f ∧ f ≤ 4) : n * f * (n + 1) < (n + 1) * f * (n + 1 + 1) ∧ n * (f + 1) * (n + 1) = n * f * (n + 1) + n * (n + 1) ∧ 0 ≤ n * f * (n + 1) ∧ n * f * (n + 1) ≤ 1000 ∧ 0 ≤ n * (n + 1) ∧ n * (n + 1) ≤ 1000 ∧ 0 ≤ n * f ∧ n * f ≤ 100 := by
  have hn : n = 1 ∨ n = 2 ∨ n = 3 ∨ n = 4 ∨ n = 5 ∨ n = 6 ∨ n = 7 ∨ n = 8 := by omega
  have hf : f = 1 ∨ f = 2 ∨ f = 3 ∨ f = 4 := by omega
  rcases hn with e | e | e | e | e | e | e | e <;> rcases hf with e2 | e2 | e2 | e2 <;> subst e <;> subst e2 <;> decide

theorem growsEnd (hX : OnlyKnown X) {Q : AVal → Heap → Prop} (hQ : ∀ h', Q (.bool true) h') {h : Heap} {t : T} {bc : Nat} {p : AVal} {ys : List Int} {w r q f s : Int}
    (t4 : t 4 = .ptr bc 0) (hc : Ob h bc [p, I w, I r, I q, I f, I s]) (hp : Sl intR h p ys) (cf : Cfg ys 7 w r q f s) :
    Tells (fun m => J_precentorlaw10_ConfigGrows_1 Try.prog (acallX Try.prog X m) m (retK Try.prog [.tmp 2]) t h) Q := by
  have hl7 : ys.length ≤ 6 := by have := cf.len; omega
  have hl : ys.length < 2 ^ 62 := by omega
  obtain ⟨cw, cr, cq, cf4, cs⟩ := And.intro cf.w (And.intro cf.r (And.intro cf.q (And.intro cf.f cf.s)))
  have hg : good w r q f s := by unfold good; omega
  have n1 := nB_of cf.tree (by omega) hg
  have r1 := roomC_of cf.tree (by omega) hg
  have ar := growArith (n := (ys.length : Int) + 1) (f := f) ⟨by omega, by omega⟩ cf4
  unfold J_precentorlaw10_ConfigGrows_1
  simp [t4, hc.1]
  refine Tells.newSt (by rfl) (by rfl) (by rfl) (by simp [hp.one]) fun h1 bg og x1 l1 => ?_
  have hc1 := hc.e x1
  have hp1 := hp.ext x1
  have wf : IntKind.i64.wrap (f + 1) = f + 1 := wrap_id (by omega) (by omega)
  simp [og.1, wf]
  refine Tells.st1 og (by rfl) (by rfl) (by simp) fun h2 og2 x2 => ?_
  have og2 : Ob h2 bg [p, I w, I r, I q, I (f + 1), I s] := og2
  have hc2 := hc1.ext x2 (by have := hc.lt; simp; omega)
  have hp2 := hp1.ext x2
  simp [hc2.1]
  refine Tells.cbE (Flying hX hp2 hl w r q f s) ?_
  rintro _ h3 ⟨rfl, x3⟩
  have hc3 := hc2.e x3
  have hp3 := hp2.ext x3
  have og3 := og2.e x3
  simp [hc2.1, hc3.1]
  refine Tells.cbE (Brokers hX hp3 hl w r q f s) ?_
  rintro _ h4 ⟨rfl, x4⟩
  have hc4 := hc3.e x4
  have hp4 := hp3.ext x4
  have og4 := og3.e x4
  have w1 : IntKind.i64.wrap (((ys.length : Int) + 1) * f) = ((ys.length : Int) + 1) * f := wrap_id (by omega) (by omega)
  simp [hc2.1, hc3.1, hc4.1, n1, w1, og4.1]
  by_cases hf4 : 4 < f + 1
  · simp [hf4]
    exact Tells.ok (hQ _)
  · simp [hf4, og4.1]
    have hg2 : good w r q (f + 1) s := by unfold good; omega
    have r2 := roomC_of cf.tree (by omega) hg2
    refine Tells.cbE (Room hX hp4 hl w r q (f + 1) s) ?_
    rintro _ h5 ⟨rfl, x5⟩
    have hc5 := hc4.e x5
    have hp5 := hp4.ext x5
    try simp [hc2.1, hc3.1, hc4.1, hc5.1]
    refine Tells.cbE (Room hX hp5 hl w r q f s) ?_
    rintro _ h6 ⟨rfl, x6⟩
    have hc6 := hc5.e x6
    have hp6 := hp5.ext x6
    try simp [hc2.1, hc3.1, hc4.1, hc5.1, hc6.1]
    refine Tells.cbE (Brokers hX hp6 hl w r q f s) ?_
    rintro _ h7 ⟨rfl, x7⟩
    have hc7 := hc6.e x7
    have hp7 := hp6.ext x7
    try simp [hc2.1, hc3.1, hc4.1, hc5.1, hc6.1, hc7.1]
    refine Tells.cbE (Brokers hX hp7 hl w r q f s) ?_
    rintro _ h8 ⟨rfl, x8⟩
    have w2 : IntKind.i64.wrap ((ys.length : Int) + 1 + 1) = (ys.length : Int) + 1 + 1 := wrap_id (by omega) (by omega)
    have w3 : IntKind.i64.wrap (((ys.length : Int) + 1) * ((ys.length : Int) + 1 + 1)) = ((ys.length : Int) + 1) * ((ys.length : Int) + 1 + 1) := wrap_id (by omega) (by omega)
    have w4 : IntKind.i64.wrap (roomC ys w r q f s + ((ys.length : Int) + 1) * ((ys.length : Int) + 1 + 1)) = roomC ys w r q (f + 1) s := by
      rw [r1, r2, ar.2.1, wrap_id (by omega) (by omega)]; omega
    simp [n1, w2, w3, w4]
    exact Tells.ok (hQ _)

theorem grows (hX : OnlyKnown X) (hk : X F_precentorlaw10_known [] = some (.bool true)) {h : Heap} {l : AVal} {ls : List Int} (ol : RawInts h l ls) :
    Tells (fun m => acallX Try.prog X m F_precentorlaw10_ConfigGrows [l] h) fun a h' => a = .bool true := by
  refine R_precentorlaw10_ConfigGrows _ (hX _ _ rfl) ?_
  refine Tells.prot fun Q' hQ => ?_
  unfold S_precentorlaw10_ConfigGrows
  simp [bldR, fillR, splice, ol.sl.known, ol.sl.cells]
  refine Tells.box rfl rfl fun h1 bf f1 x1 l1 => ?_
  have fd1 := RawInts.feed (ol.ext x1) f1
  try simp
  refine Tells.bind (Config hX 7 (by omega) (by omega) fd1 (by omega)) ?_
  rintro _ h2 ⟨p, ys, w, r, q, f, s, rfl, cf, own, x2, fd2⟩
  have hl7 : ys.length ≤ 6 := by have := cf.len; omega
  have hl : ys.length < 2 ^ 62 := by omega
  obtain ⟨cw, cr, cq, cf4, cs⟩ := And.intro cf.w (And.intro cf.r (And.intro cf.q (And.intro cf.f cf.s)))
  have hg : good w r q f s := by unfold good; omega
  have n1 := nB_of cf.tree (by omega) hg
  have r1 := roomC_of cf.tree (by omega) hg
  have e0 : errC ys w r q f s = 0 := errC_zero.2 ⟨rightT_of cf.tree (by omega), hg⟩
  have ar := growArith (n := (ys.length : Int) + 1) (f := f) ⟨by omega, by omega⟩ cf4
  try simp
  refine Tells.newSt (by rfl) (by rfl) (by rfl) (by simp [own.1.one]) fun h3 bc c3 x3 l3 => ?_
  have fd3 := fd2.e x3
  have p3 := own.1.ext x3
  have hcf : bc ≠ bf := by have := fd2.lt; omega
  try simp
  refine Tells.bind (known_X hk h3) ?_
  rintro _ h3 ⟨rfl, rfl⟩
  simp [c3.1]
  refine Tells.bind (Check hX p3 hl w r q f s) ?_
  rintro _ h4 ⟨rfl, x4⟩
  have c4 := c3.e x4
  have p4 := p3.ext x4
  have fd4 := fd3.e x4
  simp [e0, J_precentorlaw10_ConfigGrows_0, c4.1]
  -- d
  refine Tells.newSt (by rfl) (by rfl) (by rfl) (by simp [own.1.one]) fun h5 bd d5 x5 l5 => ?_
  have c5 := c4.e x5
  have p5 := p4.ext x5
  have fd5 := fd4.e x5
  try simp
  refine Tells.litV (r := intR) (xs := []) (css := []) (by rfl) trivial (by rfl) (by rfl) (by rfl) fun v6 h6 g6 x6 b6 => ?_
  have c6 := c5.e x6
  have d6 := d5.e x6
  have p6 := p5.ext x6
  have fd6 := fd5.e x6
  have kc6 := c6.kill (id := h5.next) (by rw [x6.n0]; exact n0_le h5) (by have := c5.lt; omega)
  simp [c6.1, kc6]
  refine Tells.appNE g6 p6 (by rfl) (by simp; omega) (by decide) x6.next fun v7 h7 g7 x7 y7 z7 => ?_
  have c7 := c6.ext x7 (g6.1.ob c6)
  have d7 := d6.ext x7 (g6.1.ob d6)
  have p7 := p6.ext x7
  have fd7 := fd6.ext x7 (fun hb => by have := g6.1.blk _ hb; rw [fd6.m] at this; cases this.1)
  have n7 : h7.n0 ≤ h5.next := by rw [(y7 [] x6).n0]; exact n0_le h5
  have kc7 := c7.kill (id := h5.next) n7 (by have := c5.lt; omega)
  have w1 : IntKind.i64.wrap ((ys.length : Int) + 1) = ys.length + 1 := wrap_id (by omega) (by omega)
  simp [c7.1, kc7, kc6, p7.len, w1]
  refine Tells.cbE (Next hX _ ⟨by omega, by omega⟩ fd7 (by omega)) ?_
  rintro _ h8 ⟨x, rfl, x0, xh, _, x8, fd8⟩
  have xh := xh (by omega)
  have c8 := c7.ext x8 (by simpa using hcf)
  have hdf : bd ≠ bf := by have := fd4.lt; omega
  have hdc : bd ≠ bc := by have := c4.lt; omega
  have d8 := d7.ext x8 (by simpa using hdf)
  have p8 := p7.ext x8
  have g8 := g7.extO x8 (by simp [fd7.m])
  try simp
  refine Tells.app1E g8 (by rfl) (by rfl) (show intR.rep h8 [I x] x from rfl) (by rfl) (by rfl) (by simp; omega) (by decide) (Nat.le_trans (y7 [] x6).next x8.next) fun v9 h9 g9 x9 y9 z9 => ?_
  have c9 := c8.ext x9 (g8.1.ob c8)
  have d9 := d8.ext x9 (g8.1.ob d8)
  have p9 := p8.ext x9
  try simp
  refine Tells.st1E d9 g9.1.cells g9.1.one (by simp) fun h10 d10 x10 => ?_
  have d10 : Ob h10 bd [v9, I w, I r, I q, I f, I s] := d10
  have c10 := c9.ext x10 (by simpa using Ne.symm hdc)
  have p10 := p9.ext x10
  have z10 := g9.1.ext x10
  have zt : TreeOk (([] ++ ys) ++ [x]) := by simpa using cf.tree.app x0 (by omega)
  have zl : (([] ++ ys) ++ [x]).length = ys.length + 1 := by simp
  generalize hzs : ([] ++ ys) ++ [x] = zs at z10 zt zl
  -- e
  simp [c10.1]
  refine Tells.newSt (by rfl) (by rfl) (by rfl) (by simp [own.1.one]) fun h11 be e11 x11 l11 => ?_
  have hec : be ≠ bc := by have := c10.lt; omega
  have hed : be ≠ bd := by have := d10.lt; omega
  try simp
  refine Tells.st1 e11 (by rfl) (by rfl) (by simp) fun h12 e12 x12 => ?_
  try simp
  refine Tells.st1 e12 (by rfl) (by rfl) (by simp) fun h13 e13 x13 => ?_
  try simp
  refine Tells.st1 e13 (by rfl) (by rfl) (by simp) fun h14 e14 x14 => ?_
  try simp
  refine Tells.st1 e14 (by rfl) (by rfl) (by simp) fun h15 e15 x15 => ?_
  have e15 : Ob h15 be [p, I 1, I 8, I 1, I f, I 0] := e15
  have xe : Ext [be] h11 h15 := ((x12.trans x13).trans x14).trans x15
  have g15 : Grow h15 bc bd be [p, I w, I r, I q, I f, I s] [v9, I w, I r, I q, I f, I s] [p, I 1, I 8, I 1, I f, I 0] p v9 ys zs :=
    ⟨(c10.e x11).ext xe (by simpa using Ne.symm hec), (d10.e x11).ext xe (by simpa using Ne.symm hed), e15, (p10.ext x11).ext xe, (z10.ext x11).ext xe⟩
  have hlz : zs.length < 2 ^ 62 := by omega
  have nz := nB_of zt (by omega) hg
  have rz := roomC_of zt (by omega) hg
  have hge : good 1 8 1 f 0 := by unfold good; omega
  have ne := nB_of cf.tree (by omega) hge
  have re := roomC_of cf.tree (by omega) hge
  have zl' : (zs.length : Int) = ys.length + 1 := by omega
  simp [g15.d.1]
  refine Tells.cbE (Room hX g15.z hlz w r q f s) ?_
  rintro _ h16 ⟨rfl, x16⟩
  have g16 := g15.ext x16
  simp [g15.c.1, g16.c.1]
  refine Tells.cbE (Room hX g16.y hl w r q f s) ?_
  rintro _ h17 ⟨rfl, x17⟩
  have g17 := g16.ext x17
  have b1 : ¬ roomC zs w r q f s ≤ roomC ys w r q f s := by rw [rz, r1, zl']; omega
  simp [b1, g17.d.1]
  refine Tells.cbE (Brokers hX g17.z hlz w r q f s) ?_
  rintro _ h18 ⟨rfl, x18⟩
  have g18 := g17.ext x18
  simp [g17.c.1, g18.c.1]
  refine Tells.cbE (Brokers hX g18.y hl w r q f s) ?_
  rintro _ h19 ⟨rfl, x19⟩
  have g19 := g18.ext x19
  have w2 : IntKind.i64.wrap ((ys.length : Int) + 1 + 1) = (ys.length : Int) + 1 + 1 := wrap_id (by omega) (by omega)
  simp [n1, nz, zl', w2, g19.e.1]
  refine Tells.cbE (Room hX g19.y hl 1 8 1 f 0) ?_
  rintro _ h20 ⟨rfl, x20⟩
  have g20 := g19.ext x20
  simp [g19.c.1, g20.c.1]
  refine Tells.cbE (Room hX g20.y hl w r q f s) ?_
  rintro _ h21 ⟨rfl, x21⟩
  have g21 := g20.ext x21
  simp [re, r1, g21.e.1]
  refine Tells.cbE (Flying hX g21.y hl 1 8 1 f 0) ?_
  rintro _ h22 ⟨rfl, x22⟩
  have g22 := g21.ext x22
  simp [g21.c.1, g22.c.1]
  refine Tells.cbE (Flying hX g22.y hl w r q f s) ?_
  rintro _ h23 ⟨rfl, x23⟩
  have g23 := g22.ext x23
  simp [n1, ne]
  exact growsEnd hX (fun h' => hQ _ _ rfl) (by simp) g23.c g23.y cf

end
end Go.Proofs.Ythhfeoilnkmnkaa
