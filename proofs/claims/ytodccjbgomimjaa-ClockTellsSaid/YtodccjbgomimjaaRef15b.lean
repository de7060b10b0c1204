/-
  The document's own clock: what Take, Put and NewClock tell.
-/
import Derived.Test.YtodccjbgomimjaaRef15
set_option linter.unusedVariables false
set_option linter.unusedSimpArgs false
namespace Go.Proofs.Ytodccjbgomimjaa
open Go.Ab

theorem up_places {s r : Slots} (h : s.map (·.1) = r.map (·.1)) (u : Up s) : Up r := by
  unfold Up at *
  have : (s.map (·.1)).Pairwise (· < ·) := List.pairwise_map.2 u
  rw [h] at this
  exact List.pairwise_map.1 this
theorem bump_map : ∀ {s : Slots} {p : Int}, Up s → bump s p = s.map fun x => (x.1, x.2 + if x.1 = p then 1 else 0)
  | [], p, h => rfl
  | (q, n) :: r, p, h => by
    unfold Up at h
    rw [List.pairwise_cons] at h
    by_cases e : q = p
    · have : r.map (fun x => (x.1, x.2 + if x.1 = p then 1 else 0)) = r := by
        refine (List.map_congr_left fun x hx => ?_).trans (List.map_id r)
        have := h.1 x hx
        simp only at this
        rw [if_neg (by omega)]; simp
      simp [bump, e, this]
    · simp [bump, e, bump_map (s := r) (p := p) h.2]
theorem bumps_map : ∀ {l : List (Int × Int)} {s : Slots}, Up s → bumps s l = s.map fun x => (x.1, x.2 + many l x.1)
  | [], s, h => by simp [bumps, many]
  | y :: l, s, h => by
    have := bumps_map (l := l) (up_places (bump_places s y.1).symm h)
    simp only [bumps, List.foldl_cons] at this ⊢
    rw [this, bump_map h, List.map_map]
    refine List.map_congr_left fun x hx => ?_
    simp only [Function.comp, many, List.countP_cons]
    by_cases e : x.1 = y.1
    · simp [e]; omega
    · simp [e, Ne.symm e]
theorem rise_lt : ∀ {l : List (Int × Int)} {a : Int}, riseF (some a) l = true → ∀ x, x ∈ l → a < x.1
  | [], a, h, x, hx => by simp at hx
  | (b, n) :: r, a, h, x, hx => by
    simp [riseF] at h
    rcases List.mem_cons.1 hx with rfl | hx
    · exact h.1
    · have := rise_lt h.2 x hx; omega
theorem many_rise : ∀ {l : List (Int × Int)} {p : Option Int} {q : Int}, riseF p l = true → many l q = if l.any (fun x => x.1 == q) = true then 1 else 0
  | [], p, q, h => rfl
  | (a, n) :: r, p, q, h => by
    have h2 : riseF (some a) r = true := by simp only [riseF, Bool.and_eq_true] at h; exact h.2
    have ih := many_rise (q := q) h2
    unfold many at ih ⊢
    simp only [List.countP_cons, List.any_cons]
    by_cases e : a = q
    · have : r.any (fun x => x.1 == q) = false := by
        rw [List.any_eq_false]
        intro x hx
        have := rise_lt h2 x hx
        simp; omega
      rw [this, if_neg (by simp)] at ih
      simp only [e, beq_self_eq_true, Bool.true_or, if_true]
      omega
    · simp only [beq_eq_false_iff_ne.2 e, Bool.false_or]
      rw [if_neg (show ¬ (false = true) by simp), Nat.add_zero]
      exact ih
theorem due_rise {s : Slots} {l : List (Int × Int)} (h : due s l = true) : riseF none l = true := by
  unfold due at h
  rw [dueF_split, Bool.and_eq_true] at h
  exact h.1
theorem take_up {s : Slots} (h : Up s) (l : List (Int × Int)) : Up (take s l) := up_places (take_places s l).symm h

def putL (xs : List Int) (p : Int) : List Int := if xs.any (· == p) = true then xs else xs.takeWhile (fun x => decide (x < p)) ++ [p] ++ xs.filter (fun x => decide (p < x))
theorem putL_ins : ∀ {s : Slots} {p : Int}, Up s → putL (s.map (·.1)) p = (insR s p).map (·.1)
  | [], p, h => by simp [putL, insR]
  | (q, n) :: r, p, h => by
    unfold Up at h
    rw [List.pairwise_cons] at h
    have ih := putL_ins (s := r) (p := p) h.2
    unfold putL at ih ⊢
    simp only [insR, List.map_cons, List.any_cons]
    by_cases h1 : q < p
    · have e1 : (q == p) = false := by simp; omega
      rw [if_pos h1, e1, Bool.false_or, List.map_cons, ← ih]
      split
      · rfl
      · simp [h1, show ¬ p < q by omega]
    · rw [if_neg h1]
      by_cases h2 : q = p
      · rw [if_pos h2]; simp [h2]
      · rw [if_neg h2]
        have e1 : (q == p) = false := by simp; omega
        have gt : ∀ x, x ∈ r.map (·.1) → p < x := fun x hx => by
          obtain ⟨y, hy, rfl⟩ := List.mem_map.1 hx
          have := h.1 y hy
          simp only at this
          omega
        have e2 : (r.map (·.1)).any (· == p) = false := by
          rw [List.any_eq_false]
          intro x hx
          have := gt x hx
          simp; omega
        have e3 : (r.map (·.1)).filter (fun x => decide (p < x)) = r.map (·.1) := List.filter_eq_self.2 fun x hx => by simpa using gt x hx
        rw [e1, e2]
        simp only [Bool.or_self, List.takeWhile_cons, List.filter_cons, decide_eq_true_eq, if_neg h1, if_pos (show p < q by omega), e3]
        simp

section
variable {X : XTab}

theorem takeInner {h : Heap} {t : T} {bc i : Nat} {pv nv u : AVal} {s : Slots} {l : List (Int × Int)} {q m : Int} (t1 : t 1 = u) (t2 : t 2 = .ptr bc 0) (t6 : t 6 = I i) (t7 : t 7 = I m) (t8 : t 8 = I 0) (oc : Ob h bc [pv, nv]) (o : Two h pv nv s) (hi : s[i]? = some (q, m)) (hm : -2 ^ 62 ≤ m ∧ m ≤ 2 ^ 62) (ou : Sl pairR h u l) (hu : l.length < 2 ^ 62) :
    Tells (fun f => loopN (L_precentorref9_Clock_Take_6 Try.prog (acallX Try.prog X f) f) f t h) fun p g => p.1 = .exit 2 ∧ g = h ∧ p.2 7 = I (m + if l.any (fun x => x.1 == q) = true then 1 else 0) ∧ p.2 1 = u ∧ p.2 2 = .ptr bc 0 ∧ p.2 4 = t 4 ∧ p.2 5 = t 5 ∧ p.2 6 = I i := by
  obtain ⟨b, pp, B, q1, q2, q3⟩ := o.1.atI (show (s.map (·.1))[i]? = some q by simp [hi])
  obtain ⟨b', pp', B', k1, k2, k3⟩ := o.2.atI (show (s.map (·.2))[i]? = some m by simp [hi])
  have wm : IntKind.i64.wrap (m + 1) = m + 1 := wrap_id (by omega) (by omega)
  refine Tells.loop (fun n t' g => ∃ k : Nat, t' 1 = u ∧ t' 2 = .ptr bc 0 ∧ t' 4 = t 4 ∧ t' 5 = t 5 ∧ t' 6 = I i ∧ t' 8 = I k ∧ t' 7 = I (m + if (l.take k).any (fun x => x.1 == q) = true then 1 else 0) ∧ k + n = l.length ∧ g = h) ?_ l.length _ _ ?_
  · rintro n t' g ⟨k, e1, e2, e4, e5, e6, e8, e7, hk, rfl⟩
    refine Tells.prot fun Q2 hQ2 => ?_
    unfold L_precentorref9_Clock_Take_6
    simp [e8, e1, ou.len]
    refine Tells.cb (fun hc => ?_) (fun hc => ?_)
    · simp at hc
      obtain ⟨⟨a, a2⟩, hdi⟩ : ∃ d, l[k]? = some d := ⟨_, List.getElem?_eq_getElem hc⟩
      obtain ⟨b1, p1, B1, j1, j2, j3, j4, j5⟩ := pair_at ou hdi
      have w : IntKind.i64.wrap ((k : Int) + 1) = k + 1 := wrap_id (by omega) (by omega)
      have st : (l.take (k + 1)).any (fun x => x.1 == q) = ((l.take k).any (fun x => x.1 == q) || a == q) := by
        rw [List.take_add_one, hdi]; simp
      by_cases e : a = q
      · subst e
        simp [J_precentorref9_Clock_Take_7, e1, e8, j1, j2, j4, e2, oc.1, e6, q1, q2, q3, k1, k2, k3, wm, J_precentorref9_Clock_Take_8, w]
        refine Tells.ok (hQ2 _ _ (.inl ⟨rfl, n - 1, by omega, k + 1, by simp [e1], by simp [e2], by simp [e4], by simp [e5], by simp [e6], by simp, ?_, by omega, rfl⟩))
        rw [st]; simp
      · simp [J_precentorref9_Clock_Take_7, e1, e8, j1, j2, j4, e2, oc.1, e6, q1, q2, q3, beq_eq_false_iff_ne.2 e, J_precentorref9_Clock_Take_8, w]
        refine Tells.ok (hQ2 _ _ (.inl ⟨rfl, n - 1, by omega, k + 1, by simp [e1], by simp [e2], by simp [e4], by simp [e5], by simp [e6], by simp, ?_, by omega, rfl⟩))
        rw [st, beq_eq_false_iff_ne.2 e, Bool.or_false]; simp [e7]
    · simp at hc
      refine Tells.ok (hQ2 _ _ (.inr ⟨by simp, rfl, rfl, ?_, by simp [e1], by simp [e2], by simp [e4], by simp [e5], by simp [e6]⟩))
      rw [List.take_of_length_le (by omega)] at e7
      simp [e7]
  · exact ⟨0, t1, t2, rfl, rfl, t6, by simpa using t8, by simp [t7], by omega, rfl⟩

theorem ref_Take (hX : OnlyKnown X) {h : Heap} {pv nv u : AVal} {s : Slots} {l : List (Int × Int)} (o : Two h pv nv s) (us : Up s) (hl : s.length < 2 ^ 30) (ou : Sl pairR h u l) (hu : l.length < 2 ^ 30) {K : Int} (hK : 0 ≤ K ∧ K < 2 ^ 61) (hs : Small s K) :
    Tells (fun q => acallX Try.prog X q F_precentorref9_Clock_Take [.agg [pv, nv], u] h) fun a h' => ∃ pv' nv', a = .agg [pv', nv'] ∧ Two h' pv' nv' (take s l) ∧ Ext [] h h' := by
  refine R_precentorref9_Clock_Take _ _ (hX _ _ rfl) ?_
  refine Tells.prot fun Q' hQ => ?_
  unfold S_precentorref9_Clock_Take
  simp
  refine Tells.box rfl rfl fun h1 bc oc x1 l1 => ?_
  try simp
  refine Tells.new fun h2 bv ov x2 l2 => ?_
  have x12 := x1.trans x2
  have oc2 := oc.e x2
  try simp [oc2.1]
  refine Tells.bind (ref_Due hX (o.ext x12) (by omega) (ou.ext x12) (by omega)) ?_
  rintro _ h3 ⟨rfl, x3⟩
  have x13 := x12.trans x3
  have oc3 := oc2.e x3
  have ov3 := ov.e x3
  have n1 := x1.next
  have n2 := x2.next
  have n3 := x3.next
  cases hd : due s l with
  | false =>
    simp [oc3.1]
    refine Tells.stN ov3 (by rfl) (by rfl) (by simp [o.1.one, o.2.one]) (by rfl) fun h9 o9 x9 => ?_
    simp [C_precentorref9_Clock_Take_0, o9.1]
    refine Tells.ok (hQ _ _ ⟨pv, nv, rfl, ?_, x13.then x9 (by simp; omega)⟩)
    unfold take
    rw [if_neg (by rw [hd]; simp)]
    exact (o.ext x13).ext x9
  | true =>
    simp [J_precentorref9_Clock_Take_0, oc3.1, bldR, fillR, splice, o.1.known, o.1.cells]
    refine Tells.new fun h4 bd od x4 l4 => ?_
    try simp
    refine Tells.stN od (by rfl) (by rfl) (by simp [o.1.one]) (by rfl) fun h5 od5 x5 => ?_
    have x15 : Ext [] h h5 := (x13.trans x4).then x5 (by simp; omega)
    have hcd : bc ≠ bd := by have := oc3.lt; omega
    have hvd : bv ≠ bd := by have := ov3.lt; omega
    have oc5 := (oc3.e x4).ext x5 (by simpa using hcd)
    have ov5 := (ov3.e x4).ext x5 (by simpa using hvd)
    have hts : take s l = s.map fun x => (x.1, x.2 + many l x.1) := by
      unfold take
      rw [if_pos hd, bumps_map us]
    try simp
    refine Tells.bind (Tells.loop (fun n t g => ∃ (i : Nat) (w : AVal), t 1 = u ∧ t 2 = .ptr bc 0 ∧ t 4 = .ptr bv 0 ∧ t 5 = .ptr bd 0 ∧ t 6 = I i ∧ i + n = s.length ∧ Ob g bc [pv, nv] ∧ Ob g bv [.nils, .nils] ∧ Ob g bd [pv, w] ∧ Gl intR h g w (((take s l).map (·.2)).take i) ∧ Ext [] h g)
      (Q := fun p g => p.1 = .exit 0 ∧ ∃ w, p.2 4 = .ptr bv 0 ∧ p.2 5 = .ptr bd 0 ∧ Ob g bv [.nils, .nils] ∧ Ob g bd [pv, w] ∧ Sl intR g w ((take s l).map (·.2)) ∧ Ext [] h g) ?_ s.length _ _ ?_) ?_
    · rintro n t g ⟨i, w, t1, t2, t4, t5, t6, hi, ac, av, ad, go, x⟩
      refine Tells.prot fun Q2 hQ2 => ?_
      have os := o.ext x
      have hln := os.1.len
      unfold L_precentorref9_Clock_Take_2
      simp [t6, t2, ac.1, os.1.len]
      refine Tells.cb (fun hc => ?_) (fun hc => ?_)
      · simp at hc
        obtain ⟨⟨q, m⟩, hdi⟩ : ∃ d, s[i]? = some d := ⟨_, List.getElem?_eq_getElem hc⟩
        have hm := hs (q, m) (List.mem_of_getElem? hdi)
        simp only at hm
        obtain ⟨b', pp', B', k1, k2, k3⟩ := os.2.atI (show (s.map (·.2))[i]? = some m by simp [hdi])
        have wi : IntKind.i64.wrap ((i : Int) + 1) = i + 1 := wrap_id (by omega) (by omega)
        simp [J_precentorref9_Clock_Take_3, t2, ac.1, t6, k1, k2, k3]
        refine Tells.bind (takeInner (bc := bc) (i := i) (u := u) (q := q) (m := m) (by simp [t1]) (by simp [t2]) (by simp [t6]) (by simp) (by simp) ac os hdi (by omega) (ou.ext x) (by omega)) ?_
        rintro ⟨ex, t'⟩ g' ⟨rfl, rfl, e7, e1, e2, e4, e5, e6⟩
        simp only at e7 e1 e2 e4 e5 e6
        simp [t4] at e4
        simp [t5] at e5
        have hmr : many l q = if l.any (fun x => x.1 == q) = true then 1 else 0 := many_rise (due_rise hd)
        rw [← hmr] at e7
        simp [J_precentorref9_Clock_Take_5, e5, ad.1, e7]
        refine Tells.app1 go (by rfl) (by rfl) (show intR.rep g' [I (m + many l q)] (m + many l q) from rfl) (by rfl) (by rfl) (by simp [take_length]; omega) (by decide) x.next fun s6 h6 g6 x6 y6 z6 => ?_
        have xg6 : Ext [] h h6 := y6 [] x
        have ad6 := ad.ext x6 (go.1.ob ad)
        have ac6 := ac.ext x6 (go.1.ob ac)
        have av6 := av.ext x6 (go.1.ob av)
        try simp [e5]
        refine Tells.st1 ad6 g6.1.cells g6.1.one (by simp) fun h7 o7 x7 => ?_
        simp [J_precentorref9_Clock_Take_4, e6, wi]
        have htk : ((take s l).map (·.2)).take (i + 1) = ((take s l).map (·.2)).take i ++ [m + many l q] := by
          rw [List.take_add_one, hts]; simp [hdi]
        refine Tells.ok (hQ2 _ _ (.inl ⟨rfl, n - 1, by omega, i + 1, s6, by simp [e1], by simp [e2], by simp [e4], by simp [e5], by simp, by omega, ac6.ext x7 (by simpa using hcd), av6.ext x7 (by simpa using hvd), by simpa [splice] using o7, ?_, xg6.then x7 (by simp; omega)⟩))
        rw [htk]
        exact g6.ext x7 (fun b hb q => by simp at q; subst q; exact g6.1.ob ad6 hb)
      · simp at hc
        rw [List.take_of_length_le (by simp [take_length]; omega)] at go
        exact Tells.ok (hQ2 _ _ (.inr ⟨by simp, rfl, w, by simp [t4], by simp [t5], av, ad, go.1, x⟩))
    · exact ⟨0, .nils, by simp, by simp, by simp, by simp, by simp, by omega, oc5, ov5, od5, by simpa using Gl.nil, x15⟩
    · rintro ⟨ex, t⟩ g ⟨rfl, w, t4, t5, av, ad, sl, x⟩
      simp only at t4 t5
      simp [J_precentorref9_Clock_Take_1, t5, ad.1, t4]
      refine Tells.stN av (by rfl) (by rfl) (by simp [o.1.one, sl.one]) (by rfl) fun h9 o9 x9 => ?_
      simp [t4, C_precentorref9_Clock_Take_0, o9.1]
      refine Tells.ok (hQ _ _ ⟨pv, w, rfl, ⟨?_, sl.ext x9⟩, x.then x9 (by simp; omega)⟩)
      rw [take_places]
      exact (o.1.ext x).ext x9

end
end Go.Proofs.Ytodccjbgomimjaa
