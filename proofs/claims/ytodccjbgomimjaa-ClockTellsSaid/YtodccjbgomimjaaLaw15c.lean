/-
  Law ClockValue: what New makes, and the walk.
-/
import Derived.Test.YtodccjbgomimjaaLaw15a
set_option linter.unusedVariables false
set_option linter.unusedSimpArgs false
namespace Go.Proofs.Ytodccjbgomimjaa
open Go.Ab

/-- A place comes into rising slots. -/
def insR : Slots → Int → Slots
  | [], p => [(p, 1)]
  | (q, n) :: r, p => if q < p then (q, n) :: insR r p else if q = p then (q, n) :: r else (p, 1) :: (q, n) :: r
theorem ins_eq : ∀ {s : Slots} {p : Int}, ¬ p < 0 → ins s p = insR s p
  | [], p, h => by simp [ins, below, insR, h]
  | (q, n) :: r, p, h => by
    have ih := ins_eq (s := r) h
    unfold ins at ih ⊢
    simp only [h, false_or] at ih ⊢
    by_cases hq : q < p
    · simp only [below, insR, if_pos hq, List.getElem?_cons_succ, List.take_succ_cons, List.drop_succ_cons]
      rw [← ih]
      split <;> simp
    · simp only [below, insR, if_neg hq, List.getElem?_cons_zero, Option.map_some, Option.some.injEq]
      split <;> simp
theorem insR_mem : ∀ {s : Slots} {p : Int} {x : Int × Int}, x ∈ insR s p → x ∈ s ∨ x = (p, 1)
  | [], p, x, h => by simp [insR] at h; exact .inr h
  | (q, n) :: r, p, x, h => by
    simp only [insR] at h
    split at h
    · rcases List.mem_cons.1 h with h | h
      · exact .inl (by simp [h])
      · rcases insR_mem h with h | h
        · exact .inl (by simp [h])
        · exact .inr h
    · split at h
      · exact .inl h
      · rcases List.mem_cons.1 h with h | h
        · exact .inr h
        · exact .inl h
theorem insR_has : ∀ {s : Slots} {p q : Int}, has (insR s p) q = (has s q || p == q)
  | [], p, q => by simp [insR, has]
  | (a, n) :: r, p, q => by
    simp only [insR]
    split
    · have := insR_has (s := r) (p := p) (q := q)
      simp only [has, List.any_cons] at this ⊢
      rw [this, Bool.or_assoc]
    · split
      · rename_i e
        subst e
        simp only [has, List.any_cons]
        cases (a == q) <;> simp
      · simp only [has, List.any_cons]
        cases (a == q) <;> cases (p == q) <;> simp
/-- Rising places, each first. -/
def Up (s : Slots) : Prop := s.Pairwise fun x y => x.1 < y.1
theorem insR_up : ∀ {s : Slots} {p : Int}, Up s → Up (insR s p)
  | [], p, h => by simp [insR, Up]
  | (a, n) :: r, p, h => by
    unfold Up at h
    rw [List.pairwise_cons] at h
    simp only [insR]
    split
    · rename_i hq
      refine List.pairwise_cons.2 ⟨fun y hy => ?_, insR_up h.2⟩
      rcases insR_mem hy with hy | rfl
      · exact h.1 y hy
      · exact hq
    · split
      · exact List.pairwise_cons.2 h
      · rename_i h1 h2
        refine List.pairwise_cons.2 ⟨fun y hy => ?_, List.pairwise_cons.2 h⟩
        rcases List.mem_cons.1 hy with rfl | hy
        · simp; omega
        · have := h.1 y hy; simp at this ⊢; omega
/-- What New makes. -/
structure Fresh (s : Slots) : Prop where
  up : Up s
  one : ∀ x, x ∈ s → x.2 = 1
  pos : ∀ x, x ∈ s → 0 ≤ x.1
theorem Fresh.ins {s : Slots} (h : Fresh s) (p : Int) : Fresh (ins s p) := by
  by_cases hp : p < 0
  · have : Go.Proofs.Ytodccjbgomimjaa.ins s p = s := by unfold Go.Proofs.Ytodccjbgomimjaa.ins; rw [if_pos (.inl hp)]
    rw [this]; exact h
  · rw [ins_eq hp]
    refine ⟨insR_up h.up, fun x hx => ?_, fun x hx => ?_⟩
    · rcases insR_mem hx with hx | rfl
      · exact h.one x hx
      · rfl
    · rcases insR_mem hx with hx | rfl
      · exact h.pos x hx
      · simp; omega
theorem ins_has {s : Slots} {p q : Int} : has (ins s p) q = (has s q || (decide (0 ≤ p) && p == q)) := by
  by_cases hp : p < 0
  · have : ins s p = s := by unfold ins; rw [if_pos (.inl hp)]
    rw [this]
    simp [show ¬ 0 ≤ p by omega]
  · rw [ins_eq hp, insR_has]
    simp [show 0 ≤ p by omega]
theorem fold_fresh : ∀ {ps : List Int} {s : Slots}, Fresh s → Fresh (ps.foldl ins s)
  | [], s, h => h
  | p :: r, s, h => by rw [List.foldl_cons]; exact fold_fresh (h.ins p)
theorem newS_fresh (ps : List Int) : Fresh (newS ps) := fold_fresh ⟨List.Pairwise.nil, by simp, by simp⟩
theorem fold_has : ∀ {ps : List Int} {s : Slots} {q : Int}, has (ps.foldl ins s) q = (has s q || ps.any fun p => decide (0 ≤ p) && p == q)
  | [], s, q => by simp
  | p :: r, s, q => by
    rw [List.foldl_cons, fold_has, ins_has, List.any_cons, Bool.or_assoc]
theorem newS_has (ps : List Int) (q : Int) : has (newS ps) q = ps.any fun p => decide (0 ≤ p) && p == q := by
  unfold newS; rw [fold_has]; simp [has]
theorem Fresh.nx {s : Slots} (h : Fresh s) {q : Int} (hq : has s q = true) : nxt s q = 1 := h.one _ (List.mem_of_getElem? (has_idx hq).2)
theorem Fresh.small {s : Slots} (h : Fresh s) : Small s 1 := fun x hx => by rw [h.one x hx]; omega
theorem newS_nxt {ps : List Int} {p : Int} (hp : p ∈ ps) : nxt (newS ps) p = if 0 ≤ p then 1 else 0 := by
  split
  · rename_i h
    refine (newS_fresh ps).nx ?_
    rw [newS_has, List.any_eq_true]
    exact ⟨p, hp, by simp [h]⟩
  · rename_i h
    refine not_has_nxt ?_
    rw [newS_has, List.any_eq_false]
    intro q hq
    simp
    intro h2 h3
    omega
theorem Fresh.at {s : Slots} (h : Fresh s) {i : Nat} {a : Int} (ha : (s.map (·.1))[i]? = some a) : has s a = true ∧ nxt s a = 1 := by
  have : has s a = true := by
    rw [has_places, List.any_eq_true]
    exact ⟨a, List.mem_of_getElem? ha, by simp⟩
  exact ⟨this, h.nx this⟩
theorem Fresh.rise {s : Slots} (h : Fresh s) {i : Nat} {a b : Int} (ha : (s.map (·.1))[i]? = some a) (hb : (s.map (·.1))[i + 1]? = some b) : a < b := by
  have := h.up
  unfold Up at this
  rw [List.pairwise_iff_getElem] at this
  obtain ⟨h1, h2⟩ := List.getElem?_eq_some_iff.1 ha
  obtain ⟨h3, h4⟩ := List.getElem?_eq_some_iff.1 hb
  simp at h1 h2 h3 h4
  have := this i (i + 1) h1 h3 (by omega)
  rw [h2, h4] at this
  exact this

section
variable {X : XTab}

theorem valueNew (hX : OnlyKnown X) {h : Heap} {t : T} {bc : Nat} {v u pf : AVal} {ps : List Int} (t0 : t 0 = u) (t5 : t 5 = pf) (t6 : t 6 = .ptr bc 0) (t7 : t 7 = I 0) (oc : Ob h bc [v]) (sl : Sl pairR h v (newS ps)) (ou : Sl intR h u ps) (hl : ps.length ≤ 8) :
    Tells (fun m => loopN (L_precentorlaw15_ClockValue_7 Try.prog (acallX Try.prog X m) m) m t h) fun p g => p.1 = .exit 0 ∧ p.2 5 = pf ∧ p.2 6 = .ptr bc 0 ∧ Ext [] h g := by
  have hs := newS_length ps
  refine Tells.loop (fun n t g => ∃ i : Nat, t 0 = u ∧ t 5 = pf ∧ t 6 = .ptr bc 0 ∧ t 7 = I i ∧ i + n = ps.length ∧ Ext [] h g) ?_ ps.length _ _ ?_
  · rintro n t g ⟨i, t0, t5, t6, t7, hi, x⟩
    refine Tells.prot fun Q2 hQ2 => ?_
    have oc := oc.e x
    have sl := sl.ext x
    have ou := ou.ext x
    unfold L_precentorlaw15_ClockValue_7
    simp [t7, t0, ou.len]
    refine Tells.cb (fun hc => ?_) (fun hc => ?_)
    · simp at hc
      obtain ⟨p, hdi⟩ : ∃ d, ps[i]? = some d := ⟨_, List.getElem?_eq_getElem hc⟩
      have hn := newS_nxt (List.mem_of_getElem? hdi)
      obtain ⟨b, pp, B, q1, q2, q3⟩ := ou.atI hdi
      have wi : IntKind.i64.wrap ((i : Int) + 1) = i + 1 := wrap_id (by omega) (by omega)
      by_cases hp : 0 ≤ p
      · rw [if_pos hp] at hn
        simp [J_precentorlaw15_ClockValue_8, t7, t0, q1, q2, q3, hp, t6, oc.1]
        refine Tells.cbE (clock_Next hX sl (by omega) p) ?_
        rintro _ h2 ⟨rfl, x2⟩
        obtain ⟨b', pp', B', k1, k2, k3⟩ := (ou.ext x2).atI hdi
        simp [hn, k1, k2, k3, show ¬ p < 0 by omega, J_precentorlaw15_ClockValue_9, t7, wi, t0]
        exact Tells.ok (hQ2 _ _ (.inl ⟨rfl, n - 1, by omega, i + 1, by simp [t0], by simp [t5], by simp [t6], by simp, by omega, x.trans x2⟩))
      · rw [if_neg hp] at hn
        have hp2 : p < 0 := by omega
        simp [J_precentorlaw15_ClockValue_8, t7, t0, q1, q2, q3, hp, hp2, t6, oc.1]
        refine Tells.cbE (clock_Next hX sl (by omega) p) ?_
        rintro _ h2 ⟨rfl, x2⟩
        simp [hn, J_precentorlaw15_ClockValue_9, t7, wi]
        exact Tells.ok (hQ2 _ _ (.inl ⟨rfl, n - 1, by omega, i + 1, by simp [t0], by simp [t5], by simp [t6], by simp, by omega, x.trans x2⟩))
    · exact Tells.ok (hQ2 _ _ (.inr ⟨by simp, rfl, by simp [t5], by simp [t6], x⟩))
  · exact ⟨0, t0, t5, t6, by simpa using t7, by omega, .refl⟩

theorem valueOwn (hX : OnlyKnown X) {h : Heap} {t : T} {bc : Nat} {v o pf : AVal} {s : Slots} (t5 : t 5 = pf) (t6 : t 6 = .ptr bc 0) (t8 : t 8 = o) (t9 : t 9 = I 0) (oc : Ob h bc [v]) (sl : Sl pairR h v s) (fr : Fresh s) (hl : s.length ≤ 8) (oo : Sl intR h o (s.map (·.1))) :
    Tells (fun m => loopN (L_precentorlaw15_ClockValue_3 Try.prog (acallX Try.prog X m) m) m t h) fun p g => p.1 = .exit 2 ∧ p.2 5 = pf ∧ p.2 6 = .ptr bc 0 ∧ p.2 8 = o ∧ Ext [] h g := by
  refine Tells.loop (fun n t g => ∃ i : Nat, t 5 = pf ∧ t 6 = .ptr bc 0 ∧ t 8 = o ∧ t 9 = I i ∧ i + n = s.length ∧ Ext [] h g) ?_ s.length _ _ ?_
  · rintro n t g ⟨i, t5, t6, t8, t9, hi, x⟩
    refine Tells.prot fun Q2 hQ2 => ?_
    have oc := oc.e x
    have sl := sl.ext x
    have oo := oo.ext x
    unfold L_precentorlaw15_ClockValue_3
    simp [t8, t9, oo.len]
    refine Tells.cb (fun hc => ?_) (fun hc => ?_)
    · simp at hc
      obtain ⟨a, hdi⟩ : ∃ d, (s.map (·.1))[i]? = some d := ⟨_, List.getElem?_eq_getElem (by simpa using hc)⟩
      obtain ⟨ha, hn⟩ := fr.at hdi
      have wi : IntKind.i64.wrap ((i : Int) + 1) = i + 1 := wrap_id (by omega) (by omega)
      obtain ⟨b, pp, B, q1, q2, q3⟩ := oo.atI hdi
      have hd1 : due s [(a, 1)] = true := by simp [due, dueF, ha, hn]
      have ht : take s [(a, 1)] = bump s a := by unfold take; rw [if_pos hd1]; rfl
      have hn2 : nxt (bump s a) a = 2 := by rw [nxt_bump ha, hn]; simp
      have hd2 : due (bump s a) [(a, 1)] = false := by simp [due, dueF, has_bump, ha, hn2]
      have rest : ∀ t' : T, t' 5 = pf → t' 6 = .ptr bc 0 → t' 8 = o → t' 9 = I i →
          Tells (fun m => J_precentorlaw15_ClockValue_6 Try.prog (acallX Try.prog X m) m (blkK 3 (sqK (J_precentorlaw15_ClockValue_5 Try.prog (acallX Try.prog X m) m okK) okK)) t' g) Q2 := by
        intro t' e5 e6 e8 e9
        unfold J_precentorlaw15_ClockValue_6
        simp [e6, oc.1, e8, e9, q1, q2, q3, bldR, fillR, splice]
        refine Tells.litV (r := pairR) (xs := [(a, 1)]) (css := [[I a, I 1]]) (by rfl) ⟨rfl, trivial⟩ (by rfl) (by rfl) (bsl1_agg (by rfl) (by rfl)) fun v4 h4 g4 x4 _ => ?_
        refine Tells.cbE (clock_Take hX (sl.ext x4) (by omega) g4.1 (by simp) (K := 1) ⟨by omega, by omega⟩ fr.small) ?_
        rintro _ h5 ⟨v5, rfl, s5, x5⟩
        rw [ht] at s5
        try simp
        refine Tells.newV fun h6 bd o6 x6 l6 => ?_
        try simp
        refine Tells.stNE o6 (by rfl) (by rfl) (by simp [s5.one]) (by rfl) fun h7 o7 x7 => ?_
        have x37 : Ext [] g h7 := ((x4.trans x5).trans x6).then x7 (by simp; have := (x4.trans x5).next; omega)
        have s7 := (s5.ext x6).ext x7
        have lb : (bump s a).length ≤ 8 := by have := congrArg List.length (bump_places s a); simp at this; omega
        obtain ⟨b', pp', B', k1, k2, k3⟩ := (oo.ext x37).atI hdi
        have ek1 := q1.symm.trans k1
        cases ek1
        have oc7 := oc.e x37
        try simp [o7.1, e8, e9, k1, k2, k3]
        refine Tells.cbE (clock_Next hX s7 (by omega) a) ?_
        rintro _ h8 ⟨rfl, x8⟩
        obtain ⟨b1, pp1, B1, j1, j2, j3⟩ := ((oo.ext x37).ext x8).atI hdi
        have ej1 := q1.symm.trans j1
        cases ej1
        have oc8 := oc7.e x8
        simp [hn2, e6, oc8.1, e8, e9, j1, j2, j3]
        refine Tells.cbE (clock_Next hX ((sl.ext x37).ext x8) (by omega) a) ?_
        rintro _ h9 ⟨rfl, x9⟩
        obtain ⟨b2, pp2, B2, m1, m2, m3⟩ := (((oo.ext x37).ext x8).ext x9).atI hdi
        have em1 := q1.symm.trans m1
        cases em1
        have oc9 := oc8.e x9
        simp [hn, e6, oc9.1, e8, e9, m1, m2, m3, bldR, fillR, splice]
        refine Tells.litV (r := pairR) (xs := [(a, 1)]) (css := [[I a, I 1]]) (by rfl) ⟨rfl, trivial⟩ (by rfl) (by rfl) (bsl1_agg (by rfl) (by rfl)) fun v10 h10 g10 x10 _ => ?_
        refine Tells.cbE (clock_Due hX ((((sl.ext x37).ext x8).ext x9).ext x10) (by omega) g10.1 (by simp)) ?_
        rintro _ h11 ⟨rfl, x11⟩
        have x711 := ((x8.trans x9).trans x10).trans x11
        obtain ⟨b3, pp3, B3, w1, w2, w3⟩ := ((oo.ext x37).ext x711).atI hdi
        have ew1 := q1.symm.trans w1
        cases ew1
        have o11 := o7.e x711
        simp [hd1, o11.1, e8, e9, w1, w2, w3, bldR, fillR, splice]
        refine Tells.litV (r := pairR) (xs := [(a, 1)]) (css := [[I a, I 1]]) (by rfl) ⟨rfl, trivial⟩ (by rfl) (by rfl) (bsl1_agg (by rfl) (by rfl)) fun v12 h12 g12 x12 _ => ?_
        refine Tells.cbE (clock_Due hX ((s7.ext x711).ext x12) (by omega) g12.1 (by simp)) ?_
        rintro _ h13 ⟨rfl, x13⟩
        simp [hd2, J_precentorlaw15_ClockValue_5, e9, wi]
        exact Tells.ok (hQ2 _ _ (.inl ⟨rfl, n - 1, by omega, i + 1, by simp [e5], by simp [e6], by simp [e8], by simp, by omega, (((x.trans x37).trans x711).trans x12).trans x13⟩))
      cases i with
      | zero =>
        simp [J_precentorlaw15_ClockValue_4, t9]
        exact rest _ (by simp [t5]) (by simp [t6]) (by simp [t8]) (by simpa using t9)
      | succ j =>
        obtain ⟨a0, hdj⟩ : ∃ d, (s.map (·.1))[j]? = some d := ⟨_, List.getElem?_eq_getElem (by simp; omega)⟩
        obtain ⟨b', pp', B', k1, k2, k3⟩ := oo.atI hdj
        have hr := fr.rise hdj hdi
        have pos : (0 : Int) < (j : Int) + 1 := by omega
        have wj : IntKind.i64.wrap (j : Int) = j := wrap_id (by omega) (by omega)
        have q1' : ixsR 1 o (I ((j : Int) + 1)) = some (.ptr b pp) := by simpa using q1
        simp [J_precentorlaw15_ClockValue_4, t8, t9, pos, wj, k1, k2, k3, q1', q2, q3, show ¬ a ≤ a0 by omega]
        exact rest _ (by simp [t5]) (by simp [t6]) (by simp [t8]) (by simpa using t9)
    · exact Tells.ok (hQ2 _ _ (.inr ⟨by simp, rfl, by simp [t5], by simp [t6], by simp [t8], x⟩))
  · exact ⟨0, t5, t6, t8, by simpa using t9, by omega, .refl⟩
end

end Go.Proofs.Ytodccjbgomimjaa
