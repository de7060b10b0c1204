/-
  Law ClockTells: raw stamps.
-/
import Derived.Test.YtodccjbgomimjaaFeed1
set_option linter.unusedVariables false
set_option linter.unusedSimpArgs false
namespace Go.Proofs.Ytodccjbgomimjaa
open Go.Ab

section
variable {X : XTab}

theorem stampsC (hX : OnlyKnown X) {h : Heap} {pv nv : AVal} {s : Slots} {bf k : Nat} {L : AVal} {ls : List Int} (o : Two h pv nv s) (hl : s.length < 2 ^ 30) (f : FeedL h bf k L ls) (hk : k + 14 < 2 ^ 62) :
    Tells (fun q => acallX Try.prog X q F_precentorlaw15_stamps [.ptr bf 0, .agg [pv, nv]] h) fun a h' => ∃ ys, Sl pairR h' a ys ∧ ys.length ≤ 4 ∧ Ext [bf] h h' ∧ FeedL h' bf (k + 14) L ls := by
  refine R_precentorlaw15_stamps _ _ (hX _ _ rfl) ?_
  refine Tells.prot fun Q' hQ => ?_
  unfold S_precentorlaw15_stamps
  simp
  refine Tells.box rfl rfl fun h1 bc oc x1 l1 => ?_
  have f0 : Sl intR h L ls := by obtain ⟨_, _, _, _, q, _⟩ := f; exact q
  have n1 := x1.next
  have hbc : bc ≠ bf := by have := f.lt; omega
  try simp
  refine Tells.bind (StampsL hX (f.e x1) (by omega)) ?_
  rintro v h2 ⟨xs, go, wr, hlen, _, _, x2, f2⟩
  have wr0 := wr.back n1
  have e2 : Ext [bf] h h2 := x1.of.trans x2
  try simp
  refine Tells.bind (Tells.loop (fun n t g => ∃ (i : Nat) (ys : List (Int × Int)), t 0 = .ptr bf 0 ∧ t 3 = .ptr bc 0 ∧ t 5 = v ∧ t 6 = I i ∧ i + n = xs.length ∧ Sl pairR g v ys ∧ Wr h g v ∧ ys.length = xs.length ∧ Ob g bc [pv, nv] ∧ Ext [bf] h g ∧ FeedL g bf (k + 9 + i) L ls)
    (Q := fun p g => p.1 = .exit 0 ∧ p.2 0 = .ptr bf 0 ∧ p.2 5 = v ∧ ∃ ys, Sl pairR g v ys ∧ Wr h g v ∧ ys.length = xs.length ∧ Ext [bf] h g ∧ FeedL g bf (k + 13) L ls) ?_ xs.length _ _ ?_) ?_
  · rintro n t g ⟨i, ys, t0, t3, t5, t6, hi, sl, w, hy, oc, x, fg⟩
    refine Tells.prot fun Q2 hQ2 => ?_
    unfold L_precentorlaw15_stamps_2
    simp [t6, t5, sl.len]
    refine Tells.cb (fun hc => ?_) (fun hc => ?_)
    · simp at hc
      obtain ⟨⟨a, m⟩, hdi⟩ : ∃ d, ys[i]? = some d := ⟨_, List.getElem?_eq_getElem hc⟩
      obtain ⟨b, pp, B, q1, q2, q3, q4, q5⟩ := pair_at sl hdi
      have wi : IntKind.i64.wrap ((i : Int) + 1) = i + 1 := wrap_id (by omega) (by omega)
      simp [J_precentorlaw15_stamps_3, t3, oc.1, t5, t6, q1, q2, q4]
      refine Tells.cbE (ref_Next hX (o.ext x) (by omega) a) ?_
      rintro _ h3 ⟨rfl, x3⟩
      have x03 : Ext [bf] h h3 := x.quiet x3
      have f3 := fg.e x3
      by_cases hn : 0 < nxt s a
      · simp [hn, t0]
        refine Tells.bind (NextL hX 4 ⟨by omega, by omega⟩ f3 (by omega)) ?_
        rintro _ h4 ⟨u, rfl, _, _, _, x4, f4⟩
        have x04 : Ext [bf] h h4 := x03.trans x4
        have s4 := (sl.ext x3).ext x4
        have oc4 := (oc.e x3).ext x4 (by simpa using hbc)
        have w4 := (w.ext x3).ext x4
        by_cases hu : 0 < u
        · obtain ⟨b', p', B', c, k1, el, rep, pk⟩ := s4.poke (n := 2) rfl (fun q => q) w4 x04 hdi
          have rep : c = [I a, I m] := rep
          subst rep
          have ek1 := q1.symm.trans k1
          cases ek1
          obtain ⟨h5, st, x5, w5, s5, _, _, ob5⟩ := pk 1 (I (nxt s a)) (a, nxt s a) (by omega) (by rfl) (by rfl) (by rfl)
          have f5 := f4.poke f0 x5 ob5
          simp [hu, t5, t6, k1, st, J_precentorlaw15_stamps_4, wi]
          exact Tells.ok (hQ2 _ _ (.inl ⟨rfl, n - 1, by omega, i + 1, _, by simp [t0], by simp [t3], by simp [t5], by simp, by omega, s5, w5, by simp [hy], ob5 _ _ oc4, x5, f5⟩))
        · simp [hu, J_precentorlaw15_stamps_4, t6, wi]
          exact Tells.ok (hQ2 _ _ (.inl ⟨rfl, n - 1, by omega, i + 1, ys, by simp [t0], by simp [t3], by simp [t5], by simp, by omega, s4, w4, hy, oc4, x04, f4⟩))
      · simp [hn, J_precentorlaw15_stamps_4, t6, wi]
        exact Tells.ok (hQ2 _ _ (.inl ⟨rfl, n - 1, by omega, i + 1, ys, by simp [t0], by simp [t3], by simp [t5], by simp, by omega, sl.ext x3, w.ext x3, hy, oc.e x3, x03, f3.mono (by omega)⟩))
    · exact Tells.ok (hQ2 _ _ (.inr ⟨by simp, rfl, by simp [t0], by simp [t5], ys, sl, w, hy, x, fg.mono (by omega)⟩))
  · exact ⟨0, xs, by simp, by simp, by simp, by simp, by omega, go.1, wr0, rfl, oc.ext x2 (by simpa using hbc), e2, f2.mono (by omega)⟩
  · rintro ⟨ex, t⟩ g ⟨rfl, t0, t5, ys, sl, w, hy, x, fg⟩
    simp only at t0 t5
    simp [J_precentorlaw15_stamps_0, t5, sl.len]
    have fin : ∀ (t' : T) g' zs, t' 5 = v → Sl pairR g' v zs → zs.length ≤ 4 → Ext [bf] h g' → FeedL g' bf (k + 14) L ls → Tells (fun m => J_precentorlaw15_stamps_1 Try.prog (acallX Try.prog X m) m (retK Try.prog [.tmp 4]) t' g') Q' := by
      intro t' g' zs e5 sl' hz x' f'
      simp [J_precentorlaw15_stamps_1, e5]
      exact Tells.ok (hQ _ _ ⟨zs, sl', hz, x', f'⟩)
    by_cases h1 : 1 < ys.length
    · have h1' : (1 : Int) < ys.length := by omega
      simp [h1', t0]
      refine Tells.bind (NextL hX 8 ⟨by omega, by omega⟩ fg (by omega)) ?_
      rintro _ h3 ⟨u, rfl, _, _, _, x3, f3⟩
      have x03 : Ext [bf] h h3 := x.trans x3
      have s3 := sl.ext x3
      have w3 := w.ext x3
      by_cases hu : u = 0
      · obtain ⟨y0, hd0⟩ : ∃ d, ys[0]? = some d := ⟨_, List.getElem?_eq_getElem (by omega)⟩
        obtain ⟨y1, hd1⟩ : ∃ d, ys[1]? = some d := ⟨_, List.getElem?_eq_getElem h1⟩
        obtain ⟨b0, p0, B0, q1, q2, q3, _, _⟩ := pair_at s3 hd0
        obtain ⟨b1, p1, B1, k1, k2, k3, _, _⟩ := pair_at s3 hd1
        obtain ⟨b', p', B', c, j1, el, rep, pk⟩ := Sl.poke2 (r := pairR) rfl (fun q => q) s3 w3 x03 hd0
        have ej := q1.symm.trans j1
        cases ej
        obtain ⟨h4, st4, x4, w4, s4, ob4⟩ := pk (I y1.1) (I y1.2) y1 (by rfl) (by rfl) (by rfl)
        have hd1' : (ys.set 0 y1)[1]? = some y1 := by rw [List.getElem?_set]; simp [hd1]
        obtain ⟨b'', p'', B'', c', i1, el', rep', pk'⟩ := Sl.poke2 (r := pairR) rfl (fun q => q) s4 w4 x4 hd1'
        have ei := k1.symm.trans i1
        cases ei
        obtain ⟨h5, st5, x5, w5, s5, ob5⟩ := pk' (I y0.1) (I y0.2) y0 (by rfl) (by rfl) (by rfl)
        have q1' : ixsR 2 v (I 0) = some (.ptr b0 p0) := by simpa using q1
        have k1' : ixsR 2 v (I 1) = some (.ptr b1 p1) := by simpa using k1
        have f5 := (f3.poke f0 x4 ob4).poke f0 x5 ob5
        simp [hu, t5, q1', k1', q2, k2, q3, k3, st4, st5]
        exact fin _ _ _ (by simp [t5]) s5 (by simp; omega) x5 f5
      · have hu2 : (u == 0) = false := beq_eq_false_iff_ne.2 hu
        simp [hu2]
        exact fin _ _ _ (by simp [t5]) s3 (by omega) x03 f3
    · have h1' : ¬ (1 : Int) < ys.length := by omega
      simp [h1']
      exact fin _ _ _ (by simp [t5]) sl (by omega) x (fg.mono (by omega))

end
end Go.Proofs.Ytodccjbgomimjaa
