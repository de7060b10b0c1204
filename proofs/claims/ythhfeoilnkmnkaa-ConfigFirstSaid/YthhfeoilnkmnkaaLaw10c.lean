/-
  Law ConfigFirst: the walk.
-/
import Derived.Test.YthhfeoilnkmnkaaLaw10b
set_option linter.unusedVariables false
set_option linter.unusedSimpArgs false
namespace Go.Proofs.Ythhfeoilnkmnkaa
open Go.Ab

section
variable {X : XTab}

theorem rightT_not {ys : List Int} : rightT (ys ++ [(ys.length : Int) + 1]) = false := by
  cases e : rightT (ys ++ [(ys.length : Int) + 1]) with
  | false => rfl
  | true =>
    unfold rightT at e
    rw [Bool.and_eq_true, rightFrom_all] at e
    have := e.1 ys.length ((ys.length : Int) + 1) (by simp)
    omega

theorem firstEnd (hX : OnlyKnown X) (hk : X F_precentorlaw10_known [] = some (.bool true)) {Q : AVal → Heap → Prop} (hQ : ∀ h', Q (.bool true) h') {h : Heap} {t : T} {bc : Nat} {p : AVal} {ys : List Int} {w r q f s want : Int}
    (t8 : t 8 = .ptr bc 0) (t13 : t 13 = I want) (hc : Ob h bc [p, I w, I r, I q, I f, I s]) (hp : Sl intR h p ys) (ht : TreeOk ys) (hl7 : ys.length ≤ 7) (hw : (want = 0 ∧ good w r q f s) ∨ (want = 1 ∧ ¬ good w r q f s)) :
    Tells (fun m => J_precentorlaw10_ConfigFirst_2 Try.prog (acallX Try.prog X m) m (retK Try.prog [.tmp 6]) t h) Q := by
  have hl : ys.length < 2 ^ 62 := by omega
  have hr := rightT_of ht hl7
  unfold J_precentorlaw10_ConfigFirst_2
  simp [t8, hc.1]
  refine Tells.newSt (by rfl) (by rfl) (by rfl) (by simp [hp.one]) fun h5 bd d5 x5 l5 => ?_
  have c5 := hc.e x5
  have p5 := hp.ext x5
  try simp
  refine Tells.litV (r := intR) (xs := []) (css := []) (by rfl) trivial (by rfl) (by rfl) (by rfl) fun v6 h6 g6 x6 b6 => ?_
  have c6 := c5.e x6
  have d6 := d5.e x6
  have p6 := p5.ext x6
  have kc6 := c6.kill (id := h5.next) (by rw [x6.n0]; exact n0_le h5) (by have := c5.lt; omega)
  simp [c6.1, kc6]
  refine Tells.appNE g6 p6 (by rfl) (by simp; omega) (by decide) x6.next fun v7 h7 g7 x7 y7 z7 => ?_
  have c7 := c6.ext x7 (g6.1.ob c6)
  have d7 := d6.ext x7 (g6.1.ob d6)
  have p7 := p6.ext x7
  have n7 : h7.n0 ≤ h5.next := by rw [(y7 [] x6).n0]; exact n0_le h5
  have kc7 := c7.kill (id := h5.next) n7 (by have := c5.lt; omega)
  have w1 : IntKind.i64.wrap ((ys.length : Int) + 1) = ys.length + 1 := wrap_id (by omega) (by omega)
  simp [c7.1, kc7, kc6, p7.len, w1]
  refine Tells.app1E g7 (by rfl) (by rfl) (show intR.rep h7 [I (ys.length + 1)] (ys.length + 1) from rfl) (by rfl) (by rfl) (by simp; omega) (by decide) (y7 [] x6).next fun v9 h9 g9 x9 y9 z9 => ?_
  have c9 := c7.ext x9 (g7.1.ob c7)
  have d9 := d7.ext x9 (g7.1.ob d7)
  have p9 := p7.ext x9
  have hdc : bd ≠ bc := by have := hc.lt; omega
  try simp
  refine Tells.st1E d9 g9.1.cells g9.1.one (by simp) fun h10 d10 x10 => ?_
  have d10 : Ob h10 bd [v9, I w, I r, I q, I f, I s] := d10
  have c10 := c9.ext x10 (by simpa using Ne.symm hdc)
  have p10 := p9.ext x10
  have z10 : Sl intR h10 v9 (ys ++ [(ys.length : Int) + 1]) := by simpa using g9.1.ext x10
  try simp
  refine Tells.bind (known_X hk h10) ?_
  rintro _ h10 ⟨rfl, rfl⟩
  simp [c10.1]
  refine Tells.bind (Check hX p10 hl w r q f s) ?_
  rintro _ h11 ⟨rfl, x11⟩
  have hec : errC ys w r q f s = want := by
    rcases hw with ⟨rfl, g⟩ | ⟨rfl, g⟩
    · exact errC_0 hr g
    · exact errC_1 hr g
  have c11 := c10.e x11
  have d11 := d10.e x11
  simp [hec, t13, d11.1]
  refine Tells.bind (Check hX (z10.ext x11) (by simp; omega) w r q f s) ?_
  rintro _ h12 ⟨rfl, x12⟩
  have c12 := c11.e x12
  simp [errC_3 rightT_not, c12.1]
  refine Tells.bind (Brokers hX ((p10.ext x11).ext x12) hl w r q f s) ?_
  rintro _ h13 ⟨rfl, x13⟩
  rcases hw with ⟨rfl, g⟩ | ⟨rfl, g⟩
  · have := nB_of ht hl7 g
    have h0 : (0 : Int) < (ys.length : Int) + 1 := by omega
    simp [this, t13, h0, Try.underlying4]
    exact Tells.ok (hQ _)
  · have : nB ys w r q f s = 0 := by
      unfold nB
      rw [if_neg (by rw [errC_1 hr g]; decide)]
    simp [this, t13, Try.underlying4]
    exact Tells.ok (hQ _)

theorem firstTail (hX : OnlyKnown X) (hk : X F_precentorlaw10_known [] = some (.bool true)) {Q : AVal → Heap → Prop} (hQ : ∀ h', Q (.bool true) h') {h : Heap} {t : T} {bc bm : Nat} {p : AVal} {ys : List Int} {w r q f s v least most k : Int}
    (t8 : t 8 = .ptr bc 0) (t9 : t 9 = .ptr bm 0) (t10 : t 10 = I k) (t11 : t 11 = I least) (t12 : t 12 = I v) (hc : Ob h bc [p, I w, I r, I q, I f, I s]) (hb : Ob h bm [I 8, I 8, I 8, I 4, I 4611686018427387904])
    (hk5 : 0 ≤ k ∧ k < 5) (hmost : ([I 8, I 8, I 8, I 4, I 4611686018427387904] : List AVal)[k.toNat]? = some (I most)) (hp : Sl intR h p ys) (ht : TreeOk ys) (hl7 : ys.length ≤ 7) (hw : good w r q f s ↔ (least ≤ v ∧ v ≤ most)) :
    Tells (fun m => J_precentorlaw10_ConfigFirst_1 Try.prog (acallX Try.prog X m) m (retK Try.prog [.tmp 6]) t h) Q := by
  have hix : ixpR 5 1 (.ptr bm 0) (.int .i64 k) = some (.ptr bm k.toNat) := by
    simp only [ixpR]
    rw [if_pos ⟨hk5.1, by omega⟩]
    simp
  unfold J_precentorlaw10_ConfigFirst_1
  by_cases h1 : v < least
  · simp [t12, t11, h1]
    exact firstEnd hX hk hQ (by simp [t8]) (by simp) hc hp ht hl7 (.inr ⟨rfl, fun g => by have := hw.1 g; omega⟩)
  · simp [t12, t11, h1, t9, t10, hix, hb.1, hmost]
    by_cases h2 : most < v
    · simp [h2]
      exact firstEnd hX hk hQ (by simp [t8]) (by simp) hc hp ht hl7 (.inr ⟨rfl, fun g => by have := hw.1 g; omega⟩)
    · simp [h2]
      exact firstEnd hX hk hQ (by simp [t8]) (by simp) hc hp ht hl7 (.inl ⟨rfl, hw.2 ⟨by omega, by omega⟩⟩)

theorem first (hX : OnlyKnown X) (hk : X F_precentorlaw10_known [] = some (.bool true)) {h : Heap} {l : AVal} {ls : List Int} (ol : RawInts h l ls) (which : Int) (_ : In64 which) (n : Int) (_ : In64 n) :
    Tells (fun m => acallX Try.prog X m F_precentorlaw10_ConfigFirst [l, I which, I n] h) fun a h' => a = .bool true := by
  refine R_precentorlaw10_ConfigFirst _ _ _ (hX _ _ rfl) ?_
  refine Tells.prot fun Q' hQ => ?_
  unfold S_precentorlaw10_ConfigFirst
  simp [bldR, fillR, splice, ol.sl.known, ol.sl.cells]
  refine Tells.box rfl rfl fun h1 bf f1 x1 l1 => ?_
  have fd1 := RawInts.feed (ol.ext x1) f1
  try simp
  refine Tells.bind (Config hX 8 (by omega) (by omega) fd1 (by omega)) ?_
  rintro _ h2 ⟨p, ys, w, r, q, f, s, rfl, cf, own, x2, fd2⟩
  have hl7 : ys.length ≤ 7 := by have := cf.len; omega
  obtain ⟨cw, cr, cq, cf4, cs⟩ := And.intro cf.w (And.intro cf.r (And.intro cf.q (And.intro cf.f cf.s)))
  try simp
  refine Tells.newSt (by rfl) (by rfl) (by rfl) (by simp [own.1.one]) fun h3 bc c3 x3 l3 => ?_
  have p3 := own.1.ext x3
  try simp
  refine Tells.newSt (by rfl) (by rfl) (by rfl) (by rfl) fun h4 bm m4 x4 l4 => ?_
  have c4 := c3.e x4
  have p4 := p3.ext x4
  have hcm : bc ≠ bm := by have := c3.lt; omega
  try simp
  refine Tells.bind (Pick hX which 5 ⟨by omega, by omega⟩ h4) ?_
  rintro _ h4 ⟨rfl, rfl⟩
  have p0 := pick_lo which 5
  have p1 := pick_hi which 5 (by omega)
  generalize pick which 5 = k at p0 p1
  have pk : ∀ a b c d : Int, ∃ v, ixa1 4 1 (.agg [I a, I b, I c, I d]) (I (pick n 4)) = some (I v) := by
    intro a b c d
    have p0 := pick_lo n 4
    have p1 := pick_hi n 4 (by omega)
    have : pick n 4 = 0 ∨ pick n 4 = 1 ∨ pick n 4 = 2 ∨ pick n 4 = 3 := by omega
    rcases this with e | e | e | e <;> rw [e] <;> exact ⟨_, rfl⟩
  have hk5 : k = 0 ∨ k = 1 ∨ k = 2 ∨ k = 3 ∨ k = 4 := by omega
  rcases hk5 with rfl | rfl | rfl | rfl | rfl
  · obtain ⟨v, hv⟩ := pk 1 8 0 9
    simp [J_precentorlaw10_ConfigFirst_0, ixpR, m4.1, bldR, fillR, splice, wrap_id]
    refine Tells.cbE (Pick hX n 4 ⟨by omega, by omega⟩ h4) ?_
    rintro _ h4 ⟨rfl, rfl⟩
    simp [m4.1, hv]
    exact Tells.st1 c4 (by rfl) (by rfl) (by simp) fun h8 c8 x8 => firstTail (k := 0) (least := 1) (most := 8) (v := v) hX hk (fun h' => hQ _ _ rfl) (by simp) (by simp) (by simp) (by simp) (by simp) c8 (m4.ext x8 (by simpa using Ne.symm hcm)) (by omega) (by rfl) (p4.ext x8) cf.tree hl7 (by unfold good; omega)
  · obtain ⟨v, hv⟩ := pk 1 8 0 9
    simp [J_precentorlaw10_ConfigFirst_0, ixpR, m4.1, bldR, fillR, splice, wrap_id]
    refine Tells.cbE (Pick hX n 4 ⟨by omega, by omega⟩ h4) ?_
    rintro _ h4 ⟨rfl, rfl⟩
    simp [m4.1, hv]
    exact Tells.st1 c4 (by rfl) (by rfl) (by simp) fun h8 c8 x8 => firstTail (k := 1) (least := 1) (most := 8) (v := v) hX hk (fun h' => hQ _ _ rfl) (by simp) (by simp) (by simp) (by simp) (by simp) c8 (m4.ext x8 (by simpa using Ne.symm hcm)) (by omega) (by rfl) (p4.ext x8) cf.tree hl7 (by unfold good; omega)
  · obtain ⟨v, hv⟩ := pk 1 8 0 9
    simp [J_precentorlaw10_ConfigFirst_0, ixpR, m4.1, bldR, fillR, splice, wrap_id]
    refine Tells.cbE (Pick hX n 4 ⟨by omega, by omega⟩ h4) ?_
    rintro _ h4 ⟨rfl, rfl⟩
    simp [m4.1, hv]
    exact Tells.st1 c4 (by rfl) (by rfl) (by simp) fun h8 c8 x8 => firstTail (k := 2) (least := 1) (most := 8) (v := v) hX hk (fun h' => hQ _ _ rfl) (by simp) (by simp) (by simp) (by simp) (by simp) c8 (m4.ext x8 (by simpa using Ne.symm hcm)) (by omega) (by rfl) (p4.ext x8) cf.tree hl7 (by unfold good; omega)
  · obtain ⟨v, hv⟩ := pk 1 4 0 5
    simp [J_precentorlaw10_ConfigFirst_0, ixpR, m4.1, bldR, fillR, splice, wrap_id]
    refine Tells.cbE (Pick hX n 4 ⟨by omega, by omega⟩ h4) ?_
    rintro _ h4 ⟨rfl, rfl⟩
    simp [m4.1, hv]
    exact Tells.st1 c4 (by rfl) (by rfl) (by simp) fun h8 c8 x8 => firstTail (k := 3) (least := 1) (most := 4) (v := v) hX hk (fun h' => hQ _ _ rfl) (by simp) (by simp) (by simp) (by simp) (by simp) c8 (m4.ext x8 (by simpa using Ne.symm hcm)) (by omega) (by rfl) (p4.ext x8) cf.tree hl7 (by unfold good; omega)
  · obtain ⟨v, hv⟩ := pk 0 4611686018427387904 (-1) 4611686018427387905
    simp [J_precentorlaw10_ConfigFirst_0, ixpR, m4.1, bldR, fillR, splice, wrap_id]
    refine Tells.cbE (Pick hX n 4 ⟨by omega, by omega⟩ h4) ?_
    rintro _ h4 ⟨rfl, rfl⟩
    simp [m4.1, hv]
    exact Tells.st1 c4 (by rfl) (by rfl) (by simp) fun h8 c8 x8 => firstTail (k := 4) (least := 0) (most := 4611686018427387904) (v := v) hX hk (fun h' => hQ _ _ rfl) (by simp) (by simp) (by simp) (by simp) (by simp) c8 (m4.ext x8 (by simpa using Ne.symm hcm)) (by omega) (by rfl) (p4.ext x8) cf.tree hl7 (by unfold good; omega)

end
end Go.Proofs.Ythhfeoilnkmnkaa
