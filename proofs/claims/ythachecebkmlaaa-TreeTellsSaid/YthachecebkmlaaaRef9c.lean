/-
  What precentorref9.Place, precentorlaw9's same and parents tell.
-/
import Derived.Test.YthachecebkmlaaaRef9b
import Derived.Test.YthachecebkmlaaaSprecentorlaw9
set_option linter.unusedVariables false
set_option linter.unusedSimpArgs false
namespace Go.Proofs.Ythachecebkmlaaa
open Go.Ab

theorem dist_bad {ys : List Int} {x y : Int} (h : isT ys y = false) : distF ys x y = -1 := by unfold distF; rw [if_neg (by simp [h])]
theorem sumG_none {ys : List Int} {x y : Int} (h : distF ys x y < 0) : ∀ (l : List Int) (s : Int), y ∈ l → sumG ys x s l = none
  | [], _, hy => by simp at hy
  | z :: r, s, hy => by
    simp only [sumG]
    by_cases hz : distF ys x z < 0
    · rw [if_pos hz]
    · rw [if_neg hz]
      rcases List.mem_cons.1 hy with q | q
      · subst q; exact absurd h hz
      · exact sumG_none h r _ q
theorem place_bad {ys l : List Int} {y : Int} (hy : y ∈ l) (h : isT ys y = false) : placeF ys l = -1 := by
  unfold placeF
  have hl : l.length ≠ 0 := by intro q; have := List.eq_nil_of_length_eq_zero q; subst this; simp at hy
  rw [if_neg hl]
  have := sumG_none (x := 0) (by rw [dist_bad h]; decide) l 0 hy
  simp only [placeN, this]
section
variable {X : XTab}

theorem refSum (hX : OnlyKnown X) {h : Heap} {t : T} {v w t5 t6 : AVal} {ys l : List Int} {x : Int} (o : Sl intR h v ys) (hl : ys.length < 2 ^ 62) (ol : Sl intR h w l) (hll : l.length ≤ 1000) (hx : isT ys x = true) (hv : ∀ y, y ∈ l → isT ys y = true)
    (e0 : t 0 = v) (e1 : t 1 = w) (e5 : t 5 = t5) (e6 : t 6 = t6) (e8 : t 8 = I x) (e9 : t 9 = I 0) (e10 : t 10 = I 0) :
    Tells (fun m => loopN (L_precentorref9_Place_6 Try.prog (acallX Try.prog X m) m) m t h) fun p g => Ext [] h g ∧ p.1 = .exit 4 ∧ p.2 0 = v ∧ p.2 1 = w ∧ p.2 5 = t5 ∧ p.2 6 = t6 ∧ p.2 8 = I x ∧ p.2 9 = I (sumA ys x l) := by
  refine Tells.loop (fun n t g => ∃ (i : Nat) (s : Int), t 0 = v ∧ t 1 = w ∧ t 5 = t5 ∧ t 6 = t6 ∧ t 8 = I x ∧ t 9 = I s ∧ t 10 = I i ∧ i + n = l.length ∧ 0 ≤ s ∧ s ≤ 16 * i ∧ sumA ys x l = s + sumA ys x (l.drop i) ∧ Ext [] h g) ?_ l.length _ _ ?_
  · rintro n t g ⟨i, s, e0, e1, e5, e6, e8, e9, e10, hi, s0, s1, hs, xx⟩
    refine Tells.prot fun Q2 hQ2 => ?_
    have olg := ol.ext xx
    unfold L_precentorref9_Place_6
    simp [e10, e1, olg.len]
    refine Tells.cb (fun hc => ?_) (fun hc => ?_)
    · simp at hc
      obtain ⟨y, hy⟩ : ∃ y, l[i]? = some y := ⟨_, List.getElem?_eq_getElem hc⟩
      obtain ⟨b, p, B, q1, q2, q3⟩ := olg.atI hy
      have hym := hv y (List.mem_of_getElem? hy)
      have wi : IntKind.i64.wrap ((i : Int) + 1) = i + 1 := wrap_id (by omega) (by omega)
      have dl := distF_le ys x y
      have dg := distF_ge hx hym
      have hd : l.drop i = y :: l.drop (i + 1) := by rw [List.drop_eq_getElem_cons hc, (List.getElem?_eq_some_iff.1 hy).2]
      rw [hd] at hs
      have e : sumA ys x (y :: l.drop (i + 1)) = distF ys x y + sumA ys x (l.drop (i + 1)) := rfl
      rw [e] at hs
      have w9 : IntKind.i64.wrap (s + distF ys x y) = s + distF ys x y := wrap_id (by omega) (by omega)
      simp [J_precentorref9_Place_7, e9, e0, e8, e1, e10, q1, q2, q3]
      refine Tells.bind (ref_Dist hX (o.ext xx) hl x y) ?_
      rintro _ h2 ⟨rfl, x2⟩
      simp [w9, J_precentorref9_Place_8, e10, wi]
      exact Tells.ok (hQ2 _ _ (.inl ⟨rfl, n - 1, by omega, i + 1, s + distF ys x y, by simp [e0], by simp [e1], by simp [e5], by simp [e6], by simp [e8], by simp, by simp, by omega, by omega, by omega, by omega, xx.trans x2⟩))
    · simp at hc
      rw [List.drop_eq_nil_of_le (by omega)] at hs
      have : sumA ys x [] = 0 := rfl
      exact Tells.ok (hQ2 _ _ (.inr ⟨by simp, xx, rfl, by simp [e0], by simp [e1], by simp [e5], by simp [e6], by simp [e8], by simp [e9]; omega⟩))
  · exact ⟨0, 0, e0, e1, e5, e6, e8, e9, by simpa using e10, by omega, by omega, by omega, by simp, .refl⟩

theorem ref_Place (hX : OnlyKnown X) {h : Heap} {v w : AVal} {ys l : List Int} (o : Sl intR h v ys) (hl : ys.length ≤ 1000) (ol : Sl intR h w l) (hll : l.length ≤ 1000) :
    Tells (fun q => acallX Try.prog X q F_precentorref9_Place [v, w] h) fun r h' => r = I (placeF ys l) ∧ Ext [] h h' := by
  refine R_precentorref9_Place _ _ (hX _ _ rfl) ?_
  refine Tells.prot fun Q' hQ => ?_
  unfold S_precentorref9_Place
  simp
  refine Tells.bind (Tells.loop (fun n t g => ∃ (i : Nat), t 0 = v ∧ t 1 = w ∧ t 5 = I (-1) ∧ t 6 = I 0 ∧ t 7 = I i ∧ i + n = l.length ∧ (∀ (j : Nat) y, j < i → l[j]? = some y → isT ys y = true) ∧ g = h)
    (Q := fun p g => g = h ∧ ((p.1 = .exit 0 ∧ p.2 0 = v ∧ p.2 1 = w ∧ p.2 5 = I (-1) ∧ p.2 6 = I 0 ∧ ∀ y, y ∈ l → isT ys y = true) ∨ (p.1 = .ret ∧ p.2 4 = I (placeF ys l)))) ?_ l.length _ _ ?_) ?_
  · rintro n t g ⟨i, e0, e1, e5, e6, e7, hi, hv, rfl⟩
    refine Tells.prot fun Q2 hQ2 => ?_
    unfold L_precentorref9_Place_9
    simp [e7, e1, ol.len]
    refine Tells.cb (fun hc => ?_) (fun hc => ?_)
    · simp at hc
      obtain ⟨y, hy⟩ : ∃ y, l[i]? = some y := ⟨_, List.getElem?_eq_getElem hc⟩
      obtain ⟨b, p, B, q1, q2, q3⟩ := ol.atI hy
      have wi : IntKind.i64.wrap ((i : Int) + 1) = i + 1 := wrap_id (by omega) (by omega)
      simp [J_precentorref9_Place_10, e0, e1, e7, q1, q2, q3]
      refine Tells.bind (ref_has hX o (by omega) y) ?_
      rintro _ g ⟨rfl, rfl⟩
      cases hb : isT ys y with
      | false =>
        simp
        exact Tells.ok (hQ2 _ _ (.inr ⟨by simp, rfl, .inr ⟨rfl, by simp [place_bad (List.mem_of_getElem? hy) hb]⟩⟩))
      | true =>
        simp [J_precentorref9_Place_11, e7, wi]
        refine Tells.ok (hQ2 _ _ (.inl ⟨rfl, n - 1, by omega, i + 1, by simp [e0], by simp [e1], by simp [e5], by simp [e6], by simp, by omega, fun j z hj hz => ?_, rfl⟩))
        by_cases q : j = i
        · subst q; rw [hy] at hz; cases hz; exact hb
        · exact hv j z (by omega) hz
    · simp at hc
      refine Tells.ok (hQ2 _ _ (.inr ⟨by simp, rfl, .inl ⟨rfl, by simp [e0], by simp [e1], by simp [e5], by simp [e6], fun y hy => ?_⟩⟩))
      obtain ⟨j, hj, rfl⟩ := List.mem_iff_getElem.1 hy
      exact hv j _ (by omega) (List.getElem?_eq_getElem hj)
  · exact ⟨0, by simp, by simp, by simp, by simp, by simp, by omega, by simp, rfl⟩
  · rintro ⟨ex, t⟩ g ⟨rfl, ⟨rfl, k0, k1, k5, k6, hv⟩ | ⟨rfl, k4⟩⟩
    · simp only at k0 k1 k5 k6
      simp [J_precentorref9_Place_0]
      refine Tells.bind (Tells.loop (fun n t g' => ∃ (x : Nat) (best least : Int), t 0 = v ∧ t 1 = w ∧ t 5 = I best ∧ t 6 = I least ∧ t 8 = I x ∧ x + n = ys.length + 1 ∧ (l.length = 0 → best = -1) ∧ (l.length ≠ 0 → placeF ys l = placeN ys l n x best least) ∧ Ext [] g g')
        (Q := fun p g' => Ext [] g g' ∧ p.1 = .exit 2 ∧ p.2 5 = I (placeF ys l)) ?_ (ys.length + 1) _ _ ?_) ?_
      · rintro n t g' ⟨x, best, least, e0, e1, e5, e6, e8, hn, hz, hp, xx⟩
        refine Tells.prot fun Q2 hQ2 => ?_
        have og := o.ext xx
        have olg := ol.ext xx
        unfold L_precentorref9_Place_2
        simp [e0]
        refine Tells.bind (RightTree hX og (by omega)) ?_
        rintro _ g' ⟨rfl, rfl⟩
        by_cases hl0 : l.length = 0
        · have := hz hl0
          subst this
          have fin : placeF ys l = -1 := by simp [placeF, hl0]
          cases hr : rightT ys with
          | false =>
            simp
            exact Tells.ok (hQ2 _ _ (.inr ⟨by simp, xx, rfl, by simp [e5, fin]⟩))
          | true =>
            simp [e1, olg.len, hl0]
            exact Tells.ok (hQ2 _ _ (.inr ⟨by simp, xx, rfl, by simp [e5, fin]⟩))
        · obtain ⟨y0, hy0⟩ : ∃ y, y ∈ l := by
            cases l with
            | nil => simp at hl0
            | cons y r => exact ⟨y, by simp⟩
          have hT := hv y0 hy0
          have hr : rightT ys = true := by unfold isT at hT; simp at hT; exact hT.1.1
          have hl1 : (0 : Int) < l.length := by omega
          have hl2 : 0 < l.length := by omega
          have hp := hp hl0
          by_cases h1 : x ≤ ys.length
          · have h1' : (x : Int) ≤ ys.length := by omega
            have hx := isT_of hT (show (0 : Int) ≤ x by omega) h1'
            obtain ⟨k, rfl⟩ : ∃ k, n = k + 1 := ⟨n - 1, by omega⟩
            have wx : IntKind.i64.wrap ((x : Int) + 1) = x + 1 := wrap_id (by omega) (by omega)
            have hs : sumG ys x 0 l = some (sumA ys x l) := by rw [sumG_all hx l 0 hv, Int.zero_add]
            have hp2 : placeF ys l = if best < 0 ∨ sumA ys x l < least then placeN ys l k (x + 1) x (sumA ys x l) else placeN ys l k (x + 1) best least := by
              rw [hp]; simp only [placeN, hs]
            simp [hr, e1, olg.len, hl2, e8, e0, og.len, h1, J_precentorref9_Place_3]
            refine Tells.bind (refSum hX (t5 := I best) (t6 := I least) (x := (x : Int)) og (by omega) olg hll hx hv (by simp [e0]) (by simp [e1]) (by simp [e5]) (by simp [e6]) (by simp [e8]) (by simp) (by simp)) ?_
            rintro ⟨ex, t'⟩ g2 ⟨x2, rfl, k0, k1, k5, k6, k8, k9⟩
            simp only at k0 k1 k5 k6 k8 k9
            by_cases hb : best < 0
            · rw [if_pos (.inl hb)] at hp2
              simp [J_precentorref9_Place_5, k5, hb, k8, k9, J_precentorref9_Place_4, wx]
              exact Tells.ok (hQ2 _ _ (.inl ⟨rfl, k, by omega, x + 1, x, sumA ys x l, by simp [k0], by simp [k1], by simp, by simp, by simp, by omega, fun q => by omega, fun _ => by simpa using hp2, xx.trans x2⟩))
            · by_cases hs2 : sumA ys x l < least
              · rw [if_pos (.inr hs2)] at hp2
                simp [J_precentorref9_Place_5, k5, hb, k6, hs2, k8, k9, J_precentorref9_Place_4, wx]
                exact Tells.ok (hQ2 _ _ (.inl ⟨rfl, k, by omega, x + 1, x, sumA ys x l, by simp [k0], by simp [k1], by simp, by simp, by simp, by omega, fun q => by omega, fun _ => by simpa using hp2, xx.trans x2⟩))
              · rw [if_neg (by omega)] at hp2
                simp [J_precentorref9_Place_5, k5, hb, k6, hs2, k8, k9, J_precentorref9_Place_4, wx]
                exact Tells.ok (hQ2 _ _ (.inl ⟨rfl, k, by omega, x + 1, best, least, by simp [k0], by simp [k1], by simp [k5], by simp [k6], by simp, by omega, fun q => by omega, fun _ => by simpa using hp2, xx.trans x2⟩))
          · have h1' : ¬ (x : Int) ≤ ys.length := by omega
            have : n = 0 := by omega
            subst this
            simp [hr, e1, olg.len, hl2, e8, e0, og.len, h1]
            exact Tells.ok (hQ2 _ _ (.inr ⟨by simp, xx, rfl, by rw [hp]; simp [e5, placeN]⟩))
      · refine ⟨0, -1, 0, by simp [k0], by simp [k1], by simp [k5], by simp [k6], by simp, by omega, fun _ => rfl, fun q => ?_, .refl⟩
        unfold placeF
        rw [if_neg q]
        rfl
      · rintro ⟨ex, t⟩ g' ⟨xx, rfl, k⟩
        simp only at k
        simp [J_precentorref9_Place_1, k]
        exact Tells.ok (hQ _ _ ⟨rfl, xx⟩)
    · simp only at k4
      simp [k4]
      exact Tells.ok (hQ _ _ ⟨rfl, .refl⟩)

/-! ### the law's own -/

theorem law_same (hX : OnlyKnown X) {h : Heap} {v w : AVal} {xs ys : List Int} (o : Sl intR h v xs) (ol : Sl intR h w ys) (hx : xs.length < 2 ^ 62) (hy : ys.length < 2 ^ 62) :
    Tells (fun q => acallX Try.prog X q F_precentorlaw9_same [v, w] h) fun r h' => r = .bool (decide (xs = ys)) ∧ h' = h := by
  refine R_precentorlaw9_same _ _ (hX _ _ rfl) ?_
  refine Tells.prot fun Q' hQ => ?_
  unfold S_precentorlaw9_same
  simp [o.len, ol.len]
  refine Tells.cb (fun hc => ?_) (fun hc => ?_)
  · simp at hc
    try simp
    refine Tells.ok (hQ _ _ ⟨?_, rfl⟩)
    have : xs ≠ ys := fun q => by subst q; simp at hc
    simp [this]
  · simp at hc
    have hlen : xs.length = ys.length := by omega
    simp [J_precentorlaw9_same_0]
    refine Tells.bind (Tells.loop (fun n t g => ∃ (i : Nat), t 0 = v ∧ t 1 = w ∧ t 5 = I i ∧ i + n = xs.length ∧ (∀ j, j < i → xs[j]? = ys[j]?) ∧ g = h)
      (Q := fun p g => g = h ∧ ((p.1 = .exit 0 ∧ xs = ys) ∨ (p.1 = .ret ∧ p.2 4 = .bool false ∧ xs ≠ ys))) ?_ xs.length _ _ ?_) ?_
    · rintro n t g ⟨i, e0, e1, e5, hi, he, rfl⟩
      refine Tells.prot fun Q2 hQ2 => ?_
      unfold L_precentorlaw9_same_2
      simp [e0, e5, o.len]
      refine Tells.cb (fun hc2 => ?_) (fun hc2 => ?_)
      · simp at hc2
        obtain ⟨x, hx⟩ : ∃ x, xs[i]? = some x := ⟨_, List.getElem?_eq_getElem hc2⟩
        obtain ⟨y, hy⟩ : ∃ y, ys[i]? = some y := ⟨_, List.getElem?_eq_getElem (by omega)⟩
        obtain ⟨b, p, B, q1, q2, q3⟩ := o.atI hx
        obtain ⟨b', p', B', q1', q2', q3'⟩ := ol.atI hy
        have wi : IntKind.i64.wrap ((i : Int) + 1) = i + 1 := wrap_id (by omega) (by omega)
        simp [J_precentorlaw9_same_3, e0, e1, e5, q1, q2, q3, q1', q2', q3']
        by_cases hxy : x = y
        · simp [hxy, J_precentorlaw9_same_4, e5, wi]
          refine Tells.ok (hQ2 _ _ (.inl ⟨rfl, n - 1, by omega, i + 1, by simp [e0], by simp [e1], by simp, by omega, fun j hj => ?_, rfl⟩))
          by_cases q : j = i
          · subst q; rw [hx, hy, hxy]
          · exact he j (by omega)
        · have hb : (x != y) = true := by simp [hxy]
          simp [hb]
          refine Tells.ok (hQ2 _ _ (.inr ⟨by simp, rfl, .inr ⟨rfl, by simp, fun q => ?_⟩⟩))
          subst q; rw [hx] at hy; cases hy; exact hxy rfl
      · simp at hc2
        refine Tells.ok (hQ2 _ _ (.inr ⟨by simp, rfl, .inl ⟨rfl, ?_⟩⟩))
        apply List.ext_getElem?
        intro j
        by_cases q : j < i
        · exact he j q
        · rw [List.getElem?_eq_none (by omega), List.getElem?_eq_none (by omega)]
    · exact ⟨0, by simp, by simp, by simp, by omega, by simp, rfl⟩
    · rintro ⟨ex, t⟩ g ⟨rfl, ⟨rfl, k⟩ | ⟨rfl, k4, k⟩⟩
      · simp [J_precentorlaw9_same_1]
        exact Tells.ok (hQ _ _ ⟨by simp [k], rfl⟩)
      · simp only at k4
        simp [k4]
        exact Tells.ok (hQ _ _ ⟨by simp [k], rfl⟩)

theorem law_parents (hX : OnlyKnown X) {h : Heap} {v : AVal} {xs : List Int} (o : Sl intR h v xs) (hx : xs.length < 2 ^ 63) {bf k : Nat} (f : Feed h bf k) (hk : k < 2 ^ 60) :
    Tells (fun q => acallX Try.prog X q F_precentorlaw9_parents [v, .ptr bf 0] h) fun r h' => ∃ ys, Sl intR h' r ys ∧ ys.length ≤ 9 ∧ Ext [bf] h h' ∧ Feed h' bf (k + 1002) := by
  refine R_precentorlaw9_parents _ _ (hX _ _ rfl) ?_
  refine Tells.prot fun Q' hQ => ?_
  unfold S_precentorlaw9_parents
  simp
  refine Tells.bind (Next hX 5 ⟨by decide, by decide⟩ f (by omega)) ?_
  rintro _ h1 ⟨r, rfl, r0, r1, r2, x1, f1⟩
  have o1 := o.ext x1
  by_cases hr : r = 0
  · have hm : (if (9 : Int) < (xs.length : Int) then (9 : Int) else xs.length) = ((min xs.length 9 : Nat) : Int) := by
      by_cases q : 9 < xs.length
      · rw [if_pos (by omega)]; omega
      · rw [if_neg (by omega)]; omega
    obtain ⟨v', m1, m2, _⟩ := o1.takeR (n := 1) rfl (hi := min xs.length 9) (by omega)
    simp [hr, o1.len, hm, m1]
    exact Tells.ok (hQ _ _ ⟨xs.take (min xs.length 9), by simpa using m2, by simp; omega, x1, f1.mono (by omega)⟩)
  · simp [beq_eq_false_iff_ne.2 hr, J_precentorlaw9_parents_0]
    refine Tells.bind (Tree hX 8 ⟨by decide, by decide⟩ (by decide) f1 (by omega)) ?_
    rintro p h2 ⟨ys, g2, ok, hl, _, x2, f2⟩
    have := hl (by decide)
    try simp
    exact Tells.ok (hQ _ _ ⟨ys, by simpa using g2.1, by omega, x1.trans x2, f2.mono (by omega)⟩)
end
end Go.Proofs.Ythachecebkmlaaa
