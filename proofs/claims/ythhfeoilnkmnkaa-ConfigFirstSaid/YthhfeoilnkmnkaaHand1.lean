/-
  What precentorhand's Tree and Config tell.
-/
import Derived.Test.YthhfeoilnkmnkaaHand0
import Derived.Test.YthhfeoilnkmnkaaB2
set_option linter.unusedVariables false
set_option linter.unusedSimpArgs false
namespace Go.Proofs.Ythhfeoilnkmnkaa
open Go.Ab

section
variable {X : XTab}

/-- Each parent lies ahead. -/
def TreeOk (ys : List Int) : Prop := ∀ (i : Nat) y, ys[i]? = some y → 0 ≤ y ∧ y ≤ i
theorem TreeOk.app {ys : List Int} {x : Int} (h : TreeOk ys) (h0 : 0 ≤ x) (h1 : x ≤ ys.length) : TreeOk (ys ++ [x]) := by
  intro i y hi
  rcases Nat.lt_or_ge i ys.length with k1 | k1
  · rw [List.getElem?_append_left k1] at hi; exact h i y hi
  · rw [List.getElem?_append_right k1] at hi
    have : i - ys.length = 0 := by
      cases hd : i - ys.length with
      | zero => rfl
      | succ m => rw [hd] at hi; simp at hi
    rw [this] at hi
    simp at hi
    subst hi
    exact ⟨h0, by omega⟩

theorem Tree (hX : OnlyKnown X) (most : Int) (hm : In64 most) (hm2 : most ≤ 1000) {h : Heap} {bf k : Nat} (f : Feed h bf k) (hk : k < 2 ^ 61) :
    Tells (fun q => acallX Try.prog X q F_precentorhand_Feed_Tree [.ptr bf 0, I most] h) fun v h' => ∃ ys : List Int, Gl intR h h' v ys ∧ TreeOk ys ∧ (1 ≤ most → (ys.length : Int) < most) ∧ ys.length ≤ 1000 ∧
      Ext [bf] h h' ∧ Feed h' bf (k + 1001) := by
  refine R_precentorhand_Feed_Tree _ _ (hX _ _ rfl) ?_
  refine Tells.prot fun Q' hQ => ?_
  unfold S_precentorhand_Feed_Tree
  simp
  refine Tells.bind (Next hX most hm f (by omega)) ?_
  rintro v h1 ⟨r, rfl, r0, r1, r2, e1, f1⟩
  have rb : r ≤ 1000 := by
    rcases Int.lt_or_le most 1 with q | q
    · rw [r2 q]; decide
    · have := r1 q; omega
  refine Tells.bind (Tells.loop (fun n t g => ∃ ys : List Int, t 0 = .ptr bf 0 ∧ t 6 = I (r - ys.length) ∧ Gl intR h g (t 5) ys ∧ TreeOk ys ∧ ys.length + n = r.toNat ∧ Ext [bf] h g ∧ Feed g bf (k + 1 + ys.length))
      (Q := fun p g => p.1 = .exit 0 ∧ ∃ ys : List Int, Gl intR h g (p.2 5) ys ∧ TreeOk ys ∧ ys.length = r.toNat ∧ Ext [bf] h g ∧ Feed g bf (k + 1 + ys.length)) ?_ r.toNat _ _ ?_) ?_
  · rintro n t g ⟨ys, t0, t6, o, hy, hn, e, fd⟩
    refine Tells.prot fun Q2 hQ2 => ?_
    unfold L_precentorhand_Feed_Tree_1
    simp [t6]
    refine Tells.cb (fun hc => ?_) (fun hc => ?_)
    · simp at hc
      have w : IntKind.i64.wrap ((ys.length : Int) + 1) = ys.length + 1 := wrap_id (by omega) (by omega)
      simp [J_precentorhand_Feed_Tree_2, t0, o.1.len, w]
      refine Tells.bind (Next hX _ ⟨by omega, by omega⟩ fd (by omega)) ?_
      rintro v h2 ⟨x, rfl, x0, x1, x2, e2, f2⟩
      have o2 := o.extO e2 (by simp [fd.m])
      try simp
      refine Tells.app1 o2 (by rfl) (by rfl) (show intR.rep h2 [I x] x from rfl) (by rfl) (by rfl) (by omega) (by decide) (e.trans e2).next fun s' h3 g3 x3 y3 z3 => ?_
      have w2 : IntKind.i64.wrap (r - (ys.length : Int) - 1) = r - (ys.length + 1) := by rw [wrap_id (by omega) (by omega)]; omega
      have f3 := f2.ext x3 fun q => by have := o2.1.blk _ q; rw [f2.m] at this; cases this.1
      simp [J_precentorhand_Feed_Tree_3, t6, w2]
      have := x1 (by omega)
      exact Tells.ok (hQ2 _ _ (.inl ⟨rfl, n - 1, by omega, ys ++ [x], by simp [t0], by simp, by simpa using g3, hy.app x0 (by omega), by simp; omega, y3 _ (e.trans e2), by simpa [Nat.add_assoc] using f3⟩))
    · simp at hc
      exact Tells.ok (hQ2 _ _ (.inr ⟨by simp, rfl, ys, by simpa using o, hy, by omega, e, fd⟩))
  · exact ⟨[], by simp, by simp, by simpa using Gl.nil, by simp [TreeOk], by simp, e1, f1⟩
  · rintro ⟨ex, t⟩ g ⟨rfl, ys, o, hy, hn, e, fd⟩
    simp [J_precentorhand_Feed_Tree_0]
    refine Tells.ok (hQ _ _ ⟨ys, by simpa using o, hy, fun q => ?_, ?_, e, fd.mono (by omega)⟩)
    · have := r1 q; omega
    · omega

/-- What Config makes. -/
structure Cfg (ys : List Int) (most w r q f s : Int) : Prop where
  tree : TreeOk ys
  len : (ys.length : Int) < most
  w : 1 ≤ w ∧ w ≤ 4
  r : 1 ≤ r ∧ r ≤ 3
  q : 1 ≤ q ∧ q ≤ 8
  f : 1 ≤ f ∧ f ≤ 4
  s : 0 ≤ s ∧ s ≤ 4611686018427387904

theorem Config (hX : OnlyKnown X) (most : Int) (hm1 : 1 ≤ most) (hm2 : most ≤ 1000) {h : Heap} {bf k : Nat} (f : Feed h bf k) (hk : k < 2 ^ 60) :
    Tells (fun q => acallX Try.prog X q F_precentorhand_Feed_Config [.ptr bf 0, I most] h) fun v h' => ∃ (p : AVal) (ys : List Int) (w r q f s : Int), v = .agg [p, I w, I r, I q, I f, I s] ∧ Cfg ys most w r q f s ∧ Gl intR h h' p ys ∧
      Ext [bf] h h' ∧ Feed h' bf (k + 1010) := by
  refine R_precentorhand_Feed_Config _ _ (hX _ _ rfl) ?_
  refine Tells.prot fun Q' hQ => ?_
  unfold S_precentorhand_Feed_Config
  simp
  refine Tells.new fun h1 bv ov x1 l1 => ?_
  try simp
  refine Tells.bind (Tree hX most ⟨by omega, by omega⟩ hm2 (f.e x1) (by omega)) ?_
  rintro p h2 ⟨ys, o2, hy, hl, _, x2, f2⟩
  have hl := hl hm1
  try simp
  refine Tells.bind (Next hX 4 ⟨by omega, by omega⟩ f2 (by omega)) ?_
  rintro _ h3 ⟨w, rfl, w0, w1, _, x3, f3⟩
  have w1 := w1 (by omega)
  have ww : IntKind.i64.wrap (1 + w) = 1 + w := wrap_id (by omega) (by omega)
  try simp [ww]
  refine Tells.bind (Next hX 3 ⟨by omega, by omega⟩ f3 (by omega)) ?_
  rintro _ h4 ⟨r, rfl, r0, r1, _, x4, f4⟩
  have r1 := r1 (by omega)
  have wr : IntKind.i64.wrap (1 + r) = 1 + r := wrap_id (by omega) (by omega)
  try simp [wr]
  refine Tells.bind (Next hX 8 ⟨by omega, by omega⟩ f4 (by omega)) ?_
  rintro _ h5 ⟨q, rfl, q0, q1, _, x5, f5⟩
  have q1 := q1 (by omega)
  have wq : IntKind.i64.wrap (1 + q) = 1 + q := wrap_id (by omega) (by omega)
  try simp [wq]
  refine Tells.bind (Next hX 4 ⟨by omega, by omega⟩ f5 (by omega)) ?_
  rintro _ h6 ⟨fl, rfl, l0, l1', _, x6, f6⟩
  have l1' := l1' (by omega)
  have wl : IntKind.i64.wrap (1 + fl) = 1 + fl := wrap_id (by omega) (by omega)
  have x26 := ((x3.trans x4).trans x5).trans x6
  have x06 := (x1.of.trans x2).trans x26
  have o6 := o2.extO x26 (by simp [f2.m])
  have hbv : bv ≠ bf := by have := f.lt; omega
  have ov6 := (ov.ext x2 (by simpa using hbv)).ext x26 (by simpa using hbv)
  simp [wl, bldR, fillR, splice, o6.1.known, o6.1.cells]
  refine Tells.newSt (by rfl) (by rfl) (by rfl) (by simp [o6.1.one]) fun h7 bc oc x7 l7 => ?_
  have f7 := f6.e x7
  have o7 := o6.e x7
  have ov7 := ov6.e x7
  have hbc : bc ≠ bf := by have := f6.lt; omega
  have hbcv : bc ≠ bv := by have := ov6.lt; omega
  -- what comes behind, of any Start
  have tail : ∀ (g : Heap) (s : Int) (t : T), 0 ≤ s → s ≤ 4611686018427387904 → t 4 = .ptr bv 0 → t 5 = .ptr bc 0 → Ob g bc [p, I (1 + w), I (1 + r), I (1 + q), I (1 + fl), I s] → Ob g bv [.nils, I 0, I 0, I 0, I 0, I 0] → Gl intR h g p ys →
      Ext [bf] h g → Feed g bf (k + 1009) → Tells (fun m => J_precentorhand_Feed_Config_0 Try.prog (acallX Try.prog X m) m (retK Try.prog [.cell 4 24]) t g) Q' := by
    intro g s t s0 s1 t4 t5 gc gb og xg fg
    unfold J_precentorhand_Feed_Config_0
    simp [t5, t4, gc.1]
    refine Tells.stN gb (by rfl) (by rfl) (by simp [og.1.one]) (by rfl) fun g2 ob2 y2 => ?_
    simp [t4, C_precentorhand_Feed_Config_0, ob2.1]
    exact Tells.ok (hQ _ _ ⟨p, ys, 1 + w, 1 + r, 1 + q, 1 + fl, s, rfl, ⟨hy, hl, ⟨by omega, by omega⟩, ⟨by omega, by omega⟩, ⟨by omega, by omega⟩, ⟨by omega, by omega⟩, ⟨s0, s1⟩⟩, og.extO y2 (by simp [gb.2.1]), xg.then y2 (by simp; omega), (fg.ext y2 (by simp; omega)).mono (by omega)⟩)
  have o7' := o7.back (h0 := h) x1.next
  have x07 := x06.quiet x7
  simp
  refine Tells.bind (Next hX 5 ⟨by omega, by omega⟩ f7 (by omega)) ?_
  rintro _ h9 ⟨a, rfl, a0, a1, _, x9, f9⟩
  have o9 := o7'.extO x9 (by simp [f7.m])
  have oc9 := oc.ext x9 (by simpa using hbc)
  have ov9 := ov7.ext x9 (by simpa using hbv)
  by_cases ha : a = 0
  · subst ha
    simp
    refine Tells.bind (Next hX 4 ⟨by omega, by omega⟩ f9 (by omega)) ?_
    rintro _ h10 ⟨c, rfl, c0, c1, _, x10, f10⟩
    have c1 := c1 (by omega)
    have wc : IntKind.i64.wrap (4611686018427387904 - c) = 4611686018427387904 - c := wrap_id (by omega) (by omega)
    simp [wc]
    have oc10 := oc9.ext x10 (by simpa using hbc)
    have ov10 := ov9.ext x10 (by simpa using hbv)
    have o10 := o9.extO x10 (by simp [f9.m])
    refine Tells.st1 oc10 (by rfl) (by rfl) (by simp) fun h11 oc11 x11 => ?_
    exact tail h11 (4611686018427387904 - c) _ (by omega) (by omega) (by simp) (by simp) (by simpa using oc11) (ov10.ext x11 (by simpa using Ne.symm hbcv)) (o10.extO x11 (by simp [oc10.2.1]))
      (((x07.trans x9).trans x10).then x11 (by simp; have := x06.next; omega)) ((f10.ext x11 (by simpa using Ne.symm hbc)).mono (by omega))
  · have ha' : (a == 0) = false := beq_eq_false_iff_ne.2 ha
    simp [ha']
    exact tail h9 0 _ (by omega) (by omega) (by simp) (by simp) oc9 ov9 o9 (x07.trans x9) (f9.mono (by omega))

end
end Go.Proofs.Ythhfeoilnkmnkaa
