/-
  Law TreePlaces: the rows that are made (q, and r, its turned round).
-/
import Derived.Test.YthachecebkmlaaaLaw9b
set_option linter.unusedVariables false
set_option linter.unusedSimpArgs false
namespace Go.Proofs.Ythachecebkmlaaa
open Go.Ab

section
variable {X : XTab}

theorem placesMake (hX : OnlyKnown X) {h : Heap} {t : T} {bq bp : Nat} {v u : AVal} {ys ms : List Int} {t5 : AVal} (ne : bq ≠ bp) (e1 : t 1 = u) (e6 : t 6 = .ptr bp 0) (e7 : t 7 = .ptr bq 0) (e8 : t 8 = .nils) (e9 : t 9 = I 0) (om : Sl intR h u ms) (op : Ob h bp [v]) (oq : Ob h bq [.nils]) (o : Sl intR h v ys) (hl : ys.length ≤ 1000) :
    Tells (fun m => loopN (L_precentorlaw9_TreePlaces_7 Try.prog (acallX Try.prog X m) m) m t h) fun p g => p.1 = .exit 0 ∧ p.2 6 = .ptr bp 0 ∧ p.2 7 = .ptr bq 0 ∧ ∃ w qs, Ob g bq [w] ∧ Ob g bp [v] ∧ Sl intR g v ys ∧ Sl intR g w qs ∧ Sl intR g (p.2 8) qs.reverse ∧ qs.length ≤ 8 ∧ ∀ y, y ∈ qs → 0 ≤ y ∧ y ≤ ys.length := by
  refine Tells.loop (fun n t g => ∃ (i : Nat) (w : AVal) (qs : List Int), t 1 = u ∧ t 6 = .ptr bp 0 ∧ t 7 = .ptr bq 0 ∧ t 9 = I i ∧ i + n = 8 ∧ qs.length = i ∧ Ob g bq [w] ∧ Ob g bp [v] ∧ Sl intR g v ys ∧ Sl intR g u ms ∧ Gl intR Heap.empty g w qs ∧ Sl intR g (t 8) qs.reverse ∧ ∀ y, y ∈ qs → 0 ≤ y ∧ y ≤ ys.length) ?_ 8 _ _ ?_
  · rintro n t g ⟨i, w, qs, e1, e6, e7, e9, hn, hq, oq, op, o, om, gw, or, hr⟩
    refine Tells.prot fun Q2 hQ2 => ?_
    have wi : IntKind.i64.wrap ((i : Int) + 1) = i + 1 := wrap_id (by omega) (by omega)
    have wl : IntKind.i64.wrap ((ys.length : Int) + 1) = ys.length + 1 := wrap_id (by omega) (by omega)
    unfold L_precentorlaw9_TreePlaces_7
    by_cases h1 : i < ms.length
    · by_cases h2 : i < 8
      · have h2' : (i : Int) < 8 := by omega
        obtain ⟨y, hy⟩ : ∃ y, ms[i]? = some y := ⟨_, List.getElem?_eq_getElem h1⟩
        obtain ⟨b, p, B, q1, q2, q3⟩ := om.atI hy
        simp [e9, e1, om.len, h1, h2', J_precentorlaw9_TreePlaces_8, e7, oq.1, e6, op.1, o.len, wl, q1, q2, q3]
        refine Tells.cbE (Pick hX y _ ⟨by omega, by omega⟩ g) ?_
        rintro _ g ⟨rfl, rfl⟩
        have p0 := pick_lo y (ys.length + 1)
        have p1 := pick_hi y (ys.length + 1) (by omega)
        generalize pick y (ys.length + 1) = z at p0 p1
        simp [e7, oq.1]
        refine Tells.app1E gw (by rfl) (by rfl) (show intR.rep g [I z] z from rfl) (by rfl) (by rfl) (by omega) (by decide) (Nat.zero_le _) fun s3 h3 g3 x3 y3 z3 => ?_
        have oq3 := oq.ext x3 (gw.1.ob oq)
        have op3 := op.ext x3 (gw.1.ob op)
        try simp [e7]
        refine Tells.st1E oq3 g3.1.cells g3.1.one (by simp) fun h4 oq4 x4 => ?_
        have oq4 : Ob h4 bq [s3] := by simpa using oq4
        have op4 := op3.ext x4 (by simpa using Ne.symm ne)
        have g4 := g3.ext x4 (fun b hb q => by simp at q; subst q; exact g3.1.ob oq3 hb)
        have hz : (qs ++ [z])[i]? = some z := by rw [List.getElem?_append_right (by omega)]; simp [hq]
        obtain ⟨b', p', B', k1, k2, k3⟩ := g4.1.atI hz
        have or4 := (or.ext x3).ext x4
        simp [e7, oq4.1, e9, k1, k2, k3]
        refine Tells.lit (r := intR) (xs := [z]) (css := [[I z]]) (by rfl) ⟨rfl, trivial⟩ (by rfl) (by rfl) (bsl1_int _ _ _ _) fun r5 h5 g5 x5 _ => ?_
        try simp
        refine Tells.appN g5 (or4.ext x5) (by rfl) (by simp; omega) (by decide) x5.next fun r6 h6 g6 x6 y6 z6 => ?_
        have x46 : Ext [] h4 h6 := y6 [] x5
        simp [J_precentorlaw9_TreePlaces_9, e9, wi]
        refine Tells.ok (hQ2 _ _ (.inl ⟨rfl, n - 1, by omega, i + 1, s3, qs ++ [z], by simp [e1], by simp [e6], by simp [e7], by simp, by omega, by simp [hq], oq4.e x46, op4.e x46, ((o.ext x3).ext x4).ext x46, ((om.ext x3).ext x4).ext x46, g4.e x46, by simpa using g6.1, fun w hw => ?_⟩))
        rcases List.mem_append.1 hw with hw | hw
        · exact hr w hw
        · simp at hw; subst hw; omega
      · have h2' : ¬ (i : Int) < 8 := by omega
        simp [e9, e1, om.len, h1, h2']
        exact Tells.ok (hQ2 _ _ (.inr ⟨by simp, rfl, by simp [e6], by simp [e7], w, qs, oq, op, o, gw.1, by simpa using or, by omega, hr⟩))
    · simp [e9, e1, om.len, h1]
      exact Tells.ok (hQ2 _ _ (.inr ⟨by simp, rfl, by simp [e6], by simp [e7], w, qs, oq, op, o, gw.1, by simpa using or, by omega, hr⟩))
  · exact ⟨0, .nils, [], e1, e6, e7, by simpa using e9, by omega, rfl, oq, op, o, om, Gl.nil, by rw [e8]; exact Sl.nil, by simp⟩
end
end Go.Proofs.Ythachecebkmlaaa
