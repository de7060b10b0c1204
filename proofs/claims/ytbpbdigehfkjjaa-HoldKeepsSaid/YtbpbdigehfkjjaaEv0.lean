/-
  Events: their form, the feed's, when two are the same.
-/
import Derived.Test.YtbpbdigehfkjjaaRefV
import Derived.Test.YtbpbdigehfkjjaaStamp0
import Derived.Test.YtbpbdigehfkjjaaEq2
set_option linter.unusedVariables false
set_option linter.unusedSimpArgs false
namespace Go.Proofs.Ytbpbdigehfkjjaa
open Go.Ab

/-- An event: client, broker, number, epoch, place; attributes; stamps. -/
structure Ev where
  c : Int
  b : Int
  s : Int
  e : Int
  p : Int
  ats : List Att
  sts : List (Int × Int)
def evC (x : Ev) (va vs : AVal) : List AVal := [I x.c, I x.b, I x.s, I x.e, I x.p, va, vs]
/-- No block of v's is of a class that began ahead of K. -/
def UpK (K : Nat) (h : Heap) (v : AVal) : Prop := ∀ b, b ∈ v.blks → K ≤ h.root b ∧ h.n0 ≤ b ∧ b < h.next
theorem UpK.ext {S : List Nat} {K : Nat} {h h' : Heap} {v : AVal} (w : UpK K h v) (e : Ext S h h') : UpK K h' v := fun b hb => by
  obtain ⟨w1, w2, w3⟩ := w b hb
  exact ⟨by rw [root_ext e w3]; exact w1, by rw [e.n0]; exact w2, Nat.lt_of_lt_of_le w3 e.next⟩
theorem UpK.of {K : Nat} {h0 h : Heap} {v : AVal} (w : Wr h0 h v) (hK : K ≤ h0.next) : UpK K h v := fun b hb => ⟨Nat.le_trans hK (w b hb).1, (w b hb).2⟩
def evR (K : Nat) : Rp Ev := ⟨7, by decide, fun h cs x => ∃ va vs, cs = evC x va vs ∧ Sl attrR h va x.ats ∧ Sl pairR h vs x.sts ∧ UpK K h va ∧ UpK K h vs, fun ⟨_, _, h, _, _⟩ => by rw [h]; rfl, fun ⟨_, _, h, a, b, _⟩ => by rw [h]; simp [evC, a.one, b.one],
  fun ⟨va, vs, h, a, b, c, d⟩ e => ⟨va, vs, h, a.ext e, b.ext e, c.ext e, d.ext e⟩⟩
/-- An event of the feed. -/
structure FedE (x : Ev) : Prop where
  c : 1 ≤ x.c ∧ x.c ≤ 6
  b : 0 ≤ x.b ∧ x.b < 8
  s : 1 ≤ x.s ∧ x.s ≤ 2 ^ 62
  e : 0 ≤ x.e ∧ x.e < 4
  p : 0 ≤ x.p ∧ x.p < 9
  ats : x.ats.length ≤ 5
  sts : x.sts.length ≤ 4
  sm : Small x.sts 10
def ev0 : Ev := ⟨0, 0, 0, 0, 0, [], []⟩

theorem ev_at {K : Nat} {h : Heap} {v : AVal} {es : List Ev} (o : Sl (evR K) h v es) {i : Nat} {x : Ev} (hx : es[i]? = some x) :
    ∃ b p B va vs, ixsR 7 v (.int .i64 (i : Int)) = some (.ptr b p) ∧ h.get b = some B ∧ p + 7 ≤ B.length ∧ (B.drop p).take 7 = evC x va vs ∧ Sl attrR h va x.ats ∧ Sl pairR h vs x.sts ∧ UpK K h va ∧ UpK K h vs ∧ B[p]? = some (I x.c) ∧ B[p + 2]? = some (I x.s) ∧ B[p + 5]? = some va ∧ B[p + 6]? = some vs := by
  obtain ⟨b, p, B, c, q1, e, va, vs, rfl, oa, os, ua, us⟩ := o.at (n := 7) rfl (i := (i : Int)) (by omega) (by simpa using hx)
  have l := e.le
  have e0 := e.eq
  simp only [evC, List.length_cons, List.length_nil] at l e0
  exact ⟨b, p, B, va, vs, q1, e.get, by omega, e0, oa, os, ua, us, e.cell0 (by simp [evC]), e.cell (k := 2) (by simp [evC]), e.cell (k := 5) (by simp [evC]), e.cell (k := 6) (by simp [evC])⟩

section
variable {X : XTab}
theorem EventH (hX : OnlyKnown X) {h : Heap} {bf k : Nat} (f : Feed h bf k) (hk : k < 2 ^ 59) :
    Tells (fun q => acallX Try.prog X q F_precentorhand_Feed_Event [.ptr bf 0] h) fun r h' => ∃ (x : Ev) (va vs : AVal), r = .agg (evC x va vs) ∧ FedE x ∧ Gl attrR h h' va x.ats ∧ Wr h h' va ∧ Gl pairR h h' vs x.sts ∧ Wr h h' vs ∧ (∀ c, c ∈ va.blks → c ∉ vs.blks) ∧ Ext [bf] h h' ∧ Feed h' bf (k + 31) := by
  refine R_precentorhand_Feed_Event _ (hX _ _ rfl) ?_
  refine Tells.prot fun Q' hQ => ?_
  unfold S_precentorhand_Feed_Event
  try simp
  refine Tells.new fun h1 b0 o1 x1 l1 => ?_
  have f1 := f.e x1
  have hb0 : bf ≠ b0 := by have := f.lt; omega
  try simp
  refine Tells.bind (Next hX 6 ⟨by decide, by decide⟩ f1 (by omega)) ?_
  rintro _ h2 ⟨c, rfl, c0, c1, _, x2, f2⟩
  have c1 := c1 (by decide)
  have w1 : IntKind.i64.wrap (1 + c) = 1 + c := wrap_id (by omega) (by omega)
  simp [w1]
  refine Tells.bind (Next hX 8 ⟨by decide, by decide⟩ f2 (by omega)) ?_
  rintro _ h3 ⟨b, rfl, b0', b1, _, x3, f3⟩
  have b1 := b1 (by decide)
  try simp
  refine Tells.bind (Next hX 300 ⟨by decide, by decide⟩ f3 (by omega)) ?_
  rintro _ h4 ⟨s, rfl, s0, s1, _, x4, f4⟩
  have s1 := s1 (by decide)
  have w2 : IntKind.i64.wrap (1 + s) = 1 + s := wrap_id (by omega) (by omega)
  simp [w2]
  refine Tells.bind (Next hX 4 ⟨by decide, by decide⟩ f4 (by omega)) ?_
  rintro _ h5 ⟨e, rfl, e0, e1, _, x5, f5⟩
  have e1 := e1 (by decide)
  try simp
  refine Tells.bind (Next hX 9 ⟨by decide, by decide⟩ f5 (by omega)) ?_
  rintro _ h6 ⟨p, rfl, p0, p1, _, x6, f6⟩
  have p1 := p1 (by decide)
  try simp
  refine Tells.bind (AttrsW hX f6 (by omega)) ?_
  rintro va h7 ⟨ats, ga, wa, la, hs, hv, x7, f7⟩
  try simp
  refine Tells.bind (Stamps hX f7 (by omega)) ?_
  rintro vs h8 ⟨sts, gs, ws, ls, ds, sm, x8, f8⟩
  have x06 : Ext [bf] h h6 := ((((x1.of.trans x2).trans x3).trans x4).trans x5).trans x6
  have o8 := (((((((o1.ext x2 (by simpa using hb0.symm)).ext x3 (by simpa using hb0.symm)).ext x4 (by simpa using hb0.symm)).ext x5 (by simpa using hb0.symm)).ext x6 (by simpa using hb0.symm)).ext x7 (by simpa using hb0.symm)).ext x8 (by simpa using hb0.symm))
  have ga8 : Gl attrR h h8 va ats := (ga.extO x8 (by simpa using .inl f7.m)).back x06.next
  have wa8 : Wr h h8 va := (wa.ext x8).back x06.next
  have gs8 : Gl pairR h h8 vs sts := gs.back (x06.trans x7).next
  have ws8 : Wr h h8 vs := ws.back (x06.trans x7).next
  have hd : ∀ c, c ∈ va.blks → c ∉ vs.blks := fun c hc hc' => by
    have a1 := (wa c hc).2.2
    have a2 := (ws c hc').1
    have := root_le h8 c
    omega
  simp [bldR, fillR, splice, ga8.1.known, ga8.1.cells, gs8.1.known, gs8.1.cells]
  refine Tells.newSt (ds := [I (1 + c), I b, I (1 + s), I e, I p, va, vs]) (by rfl) (by rfl) (by rfl) (by simp [ga8.1.one, gs8.1.one]) fun h9 be oe x9 l9 => ?_
  have f9 := f8.e x9
  have o9 := o8.e x9
  have hbe : be ≠ bf := by have := f8.lt; omega
  have hb2 : be ≠ b0 := by have := o8.lt; omega
  try simp
  refine Tells.bind (Next hX 6 ⟨by decide, by decide⟩ f9 (by omega)) ?_
  rintro _ h10 ⟨z, rfl, z0, z1, _, x10, f10⟩
  have oe10 := oe.ext x10 (by simpa using hbe)
  have o10 := o9.ext x10 (by simpa using hb0.symm)
  have x08 : Ext [bf] h h8 := (x06.trans x7).trans x8
  have fin : ∀ (g : Heap) (t : T) (x : Ev) (K : Nat), t 2 = .ptr b0 0 → t 3 = .ptr be 0 → x.ats = ats → x.sts = sts → FedE x → Ob g be (evC x va vs) → Ob g b0 [I 0, I 0, I 0, I 0, I 0, .nils, .nils] → Gl attrR h g va ats → Wr h g va → Gl pairR h g vs sts → Wr h g vs → Ext [bf] h g → Feed g bf K → K ≤ k + 31 → Tells (fun m => J_precentorhand_Feed_Event_0 Try.prog (acallX Try.prog X m) m (retK Try.prog [.cell 2 32]) t g) Q' := by
    intro g t x K t2 t3 e1 e2 fe oe o0 ga wa gs ws xg fg hK
    have hob : b0 ∉ va.blks := ga.1.ob o0
    have hob2 : b0 ∉ vs.blks := gs.1.ob o0
    simp [J_precentorhand_Feed_Event_0, t2, t3, oe.1, evC]
    refine Tells.stN o0 (ds := evC x va vs) (by rfl) (by rfl) (by simp [evC, ga.1.one, gs.1.one]) (by rfl) fun g2 o2 x2 => ?_
    simp [t2, C_precentorhand_Feed_Event_0, o2.1, evC]
    exact Tells.ok (hQ _ _ ⟨x, va, vs, rfl, fe, by rw [e1]; exact ga.ext x2 (fun b hb q => hob (by rw [← List.mem_singleton.1 q]; exact hb)), wa.ext x2, by rw [e2]; exact gs.ext x2 (fun b hb q => hob2 (by rw [← List.mem_singleton.1 q]; exact hb)), ws.ext x2, hd, xg.then x2 fun w hw => .inr (by simp at hw; omega), (fg.ext x2 (by simpa using hb0)).mono hK⟩)
  have carry : ∀ {S : List Nat} {g : Heap}, Ext S h8 g → (∀ b, b ∈ S → h8.isM b = true ∨ h8.next ≤ b) → Gl attrR h g va ats ∧ Wr h g va ∧ Gl pairR h g vs sts ∧ Wr h g vs := fun x hS => ⟨ga8.extO x hS, wa8.ext x, gs8.extO x hS, ws8.ext x⟩
  have x810 : Ext [bf] h8 h10 := x9.of.trans x10
  by_cases hz : z = 0
  · simp [hz]
    refine Tells.bind (Next hX 3 ⟨by decide, by decide⟩ f10 (by omega)) ?_
    rintro _ h11 ⟨y, rfl, y0, y1, _, x11, f11⟩
    have y1 := y1 (by decide)
    have w3 : IntKind.i64.wrap (4611686018427387904 - y) = 4611686018427387904 - y := wrap_id (by omega) (by omega)
    have oe11 := oe10.ext x11 (by simpa using hbe)
    have o11 := o10.ext x11 (by simpa using hb0.symm)
    simp [w3]
    refine Tells.st1 oe11 (by rfl) (by rfl) (by simp) fun h12 oe12 x12 => ?_
    have o12 := o11.ext x12 (by simpa using hb2.symm)
    have x812 : Ext [bf] h8 h12 := (x810.trans x11).then x12 fun w hw => .inr (by simp at hw; omega)
    obtain ⟨c1', c2', c3', c4'⟩ := carry x812 (by simpa using .inl f8.m)
    try simp
    exact fin h12 _ ⟨1 + c, b, 4611686018427387904 - y, e, p, ats, sts⟩ (k + 31) (by simp) (by simp) rfl rfl ⟨by simp; omega, by simp; omega, by simp; omega, by simp; omega, by simp; omega, la, ls, sm⟩ oe12 o12 c1' c2' c3' c4' (x08.trans x812) ((f11.ext x12 (by simpa using hbe.symm)).mono (by omega)) (Nat.le_refl _)
  · have hz' : (z == 0) = false := beq_eq_false_iff_ne.2 hz
    obtain ⟨c1', c2', c3', c4'⟩ := carry x810 (by simpa using .inl f8.m)
    simp [hz']
    exact fin h10 _ ⟨1 + c, b, 1 + s, e, p, ats, sts⟩ (k + 31) (by simp) (by simp) rfl rfl ⟨by simp; omega, by simp; omega, by simp; omega, by simp; omega, by simp; omega, la, ls, sm⟩ oe10 o10 c1' c2' c3' c4' (x08.trans x810) (f10.mono (by omega)) (Nat.le_refl _)
end
end Go.Proofs.Ytbpbdigehfkjjaa
