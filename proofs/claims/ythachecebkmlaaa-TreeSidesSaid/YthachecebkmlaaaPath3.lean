/-
  What tree.Place tells.
-/
import Derived.Test.YthachecebkmlaaaPath2
set_option linter.unusedVariables false
set_option linter.unusedSimpArgs false
namespace Go.Proofs.Ythachecebkmlaaa
open Go.Ab

theorem distF_le (ys : List Int) (a b : Int) : -1 ≤ distF ys a b ∧ distF ys a b ≤ 16 := by
  unfold distF
  split
  · rename_i h
    obtain ⟨_, k2, k3, k4⟩ := isT_ok h.1
    obtain ⟨_, _, k5, k6⟩ := isT_ok h.2
    have := pathF_len ys a b
    omega
  · omega

/-- The sum of the ways to all, none being missing. -/
def sumF (ys : List Int) (x : Int) : List Int → Option Int
  | [] => some 0
  | y :: r => if distF ys x y < 0 then none else (sumF ys x r).map (distF ys x y + ·)
/-- From a number on. -/
def sumG (ys : List Int) (x : Int) : Int → List Int → Option Int
  | s, [] => some s
  | s, y :: r => if distF ys x y < 0 then none else sumG ys x (s + distF ys x y) r
theorem sumG_drop {ys l : List Int} {x s : Int} {i : Nat} {y : Int} (h : l[i]? = some y) : sumG ys x s (l.drop i) = if distF ys x y < 0 then none else sumG ys x (s + distF ys x y) (l.drop (i + 1)) := by
  have hlt := (List.getElem?_eq_some_iff.1 h).1
  rw [List.drop_eq_getElem_cons hlt, (List.getElem?_eq_some_iff.1 h).2]
  rfl

section
variable {X : XTab}

theorem placeSum (hX : OnlyKnown X) {h : Heap} {t : T} {v w t5 t6 : AVal} {ys l : List Int} {x : Int} (o : Sl intR h v ys) (hl : ys.length < 2 ^ 62) (ol : Sl intR h w l) (hll : l.length ≤ 1000) (e0 : t 0 = v) (e1 : t 1 = w) (e5 : t 5 = t5) (e6 : t 6 = t6) (e7 : t 7 = I x) (e8 : t 8 = I 0) (e23 : t 23 = w) (e24 : t 24 = I l.length) (e25 : t 25 = I 0) :
    Tells (fun m => loopN (L_tree_Place_5 Try.prog (acallX Try.prog X m) m) m t h) fun p g => Ext [] h g ∧ ((p.1 = .exit 2 ∧ p.2 0 = v ∧ p.2 1 = w ∧ p.2 5 = t5 ∧ p.2 6 = t6 ∧ p.2 7 = I x ∧ ∃ s, p.2 8 = I s ∧ sumG ys x 0 l = some s ∧ 0 ≤ s ∧ s ≤ 16 * l.length) ∨ (p.1 = .ret ∧ p.2 4 = I (-1) ∧ sumG ys x 0 l = none)) := by
  refine Tells.loop (fun n t g => ∃ (i : Nat) (s : Int), t 0 = v ∧ t 1 = w ∧ t 5 = t5 ∧ t 6 = t6 ∧ t 7 = I x ∧ t 8 = I s ∧ t 23 = w ∧ t 24 = I l.length ∧ t 25 = I i ∧ i + n = l.length ∧ 0 ≤ s ∧ s ≤ 16 * i ∧ sumG ys x 0 l = sumG ys x s (l.drop i) ∧ Ext [] h g) ?_ l.length _ _ ?_
  · rintro n t g ⟨i, s, e0, e1, e5, e6, e7, e8, e23, e24, e25, hi, s0, s1, hs, xx⟩
    refine Tells.prot fun Q2 hQ2 => ?_
    unfold L_tree_Place_5
    simp [e24, e25]
    refine Tells.cb (fun hc => ?_) (fun hc => ?_)
    · simp at hc
      obtain ⟨y, hy⟩ : ∃ y, l[i]? = some y := ⟨_, List.getElem?_eq_getElem hc⟩
      obtain ⟨b, p, B, q1, q2, q3⟩ := (ol.ext xx).atI hy
      have wi : IntKind.i64.wrap ((i : Int) + 1) = i + 1 := wrap_id (by omega) (by omega)
      have dl := distF_le ys x y
      rw [sumG_drop hy] at hs
      simp [J_tree_Place_6, e23, e25, q1, q2, q3, e0, e7]
      refine Tells.bind (tree_Dist hX (o.ext xx) hl x y) ?_
      rintro _ h2 ⟨rfl, x2⟩
      by_cases hd : distF ys x y < 0
      · rw [if_pos hd] at hs
        simp [hd]
        exact Tells.ok (hQ2 _ _ (.inr ⟨by simp, xx.trans x2, .inr ⟨rfl, by simp, hs⟩⟩))
      · rw [if_neg hd] at hs
        have w8 : IntKind.i64.wrap (s + distF ys x y) = s + distF ys x y := wrap_id (by omega) (by omega)
        simp [hd, J_tree_Place_8, e8, w8, J_tree_Place_7, e25, wi]
        exact Tells.ok (hQ2 _ _ (.inl ⟨rfl, n - 1, by omega, i + 1, s + distF ys x y, by simp [e0], by simp [e1], by simp [e5], by simp [e6], by simp [e7], by simp, by simp [e23], by simp [e24], by simp, by omega, by omega, by omega, hs, xx.trans x2⟩))
    · simp at hc
      rw [List.drop_eq_nil_of_le (by omega)] at hs
      exact Tells.ok (hQ2 _ _ (.inr ⟨by simp, xx, .inl ⟨rfl, by simp [e0], by simp [e1], by simp [e5], by simp [e6], by simp [e7], s, by simp [e8], hs, s0, by omega⟩⟩))
  · exact ⟨0, 0, e0, e1, e5, e6, e7, e8, e23, e24, by simpa using e25, by omega, by omega, by omega, by simp, .refl⟩

/-- The best from x on, k more to look at. -/
def placeN (ys l : List Int) : Nat → Int → Int → Int → Int
  | 0, _, best, _ => best
  | k + 1, x, best, least => match sumG ys x 0 l with
    | none => -1
    | some s => if best < 0 ∨ s < least then placeN ys l k (x + 1) x s else placeN ys l k (x + 1) best least
def placeF (ys l : List Int) : Int := if l.length = 0 then -1 else placeN ys l (ys.length + 1) 0 (-1) 0

theorem tree_Place (hX : OnlyKnown X) {h : Heap} {v w : AVal} {ys l : List Int} (o : Sl intR h v ys) (hl : ys.length ≤ 1000) (ol : Sl intR h w l) (hll : l.length ≤ 1000) :
    Tells (fun q => acallX Try.prog X q F_tree_Place [v, w] h) fun r h' => r = I (placeF ys l) ∧ Ext [] h h' := by
  refine R_tree_Place _ _ (hX _ _ rfl) ?_
  refine Tells.prot fun Q' hQ => ?_
  unfold S_tree_Place
  simp
  refine Tells.bind (Tells.loop (fun n t g => ∃ (x : Nat) (best least : Int), t 0 = v ∧ t 1 = w ∧ t 5 = I best ∧ t 6 = I least ∧ t 7 = I x ∧ x + n = ys.length + 1 ∧ (l.length = 0 → best = -1) ∧ (l.length ≠ 0 → placeF ys l = placeN ys l n x best least) ∧ Ext [] h g)
    (Q := fun p g => Ext [] h g ∧ ((p.1 = .exit 0 ∧ p.2 5 = I (placeF ys l)) ∨ (p.1 = .ret ∧ p.2 4 = I (placeF ys l)))) ?_ (ys.length + 1) _ _ ?_) ?_
  · rintro n t g ⟨x, best, least, e0, e1, e5, e6, e7, hn, hz, hp, xx⟩
    refine Tells.prot fun Q2 hQ2 => ?_
    have og := o.ext xx
    have olg := ol.ext xx
    unfold L_tree_Place_1
    by_cases h1 : x ≤ ys.length
    · have h1' : (x : Int) ≤ ys.length := by omega
      by_cases h2 : 0 < l.length
      · have h2' : (0 : Int) < l.length := by omega
        have hp := hp (by omega)
        obtain ⟨k, rfl⟩ : ∃ k, n = k + 1 := ⟨n - 1, by omega⟩
        have wx : IntKind.i64.wrap ((x : Int) + 1) = x + 1 := wrap_id (by omega) (by omega)
        simp [e7, e0, og.len, h1', e1, olg.len, h2, J_tree_Place_2]
        refine Tells.bind (placeSum hX (t5 := I best) (t6 := I least) (x := (x : Int)) og (by omega) olg hll (by simp [e0]) (by simp [e1]) (by simp [e5]) (by simp [e6]) (by simp [e7]) (by simp) (by simp) (by simp) (by simp)) ?_
        rintro ⟨ex, t'⟩ g' ⟨x2, ⟨rfl, k0, k1, k5, k6, k7, s, k8, hs, s0, s1⟩ | ⟨rfl, k4, hs⟩⟩
        · simp only at k0 k1 k5 k6 k7 k8
          have hp2 : placeF ys l = if best < 0 ∨ s < least then placeN ys l k (x + 1) x s else placeN ys l k (x + 1) best least := by
            rw [hp]; simp only [placeN, hs]
          by_cases hb : best < 0
          · rw [if_pos (.inl hb)] at hp2
            simp [J_tree_Place_4, k5, hb, k7, k8, J_tree_Place_3, wx]
            exact Tells.ok (hQ2 _ _ (.inl ⟨rfl, k, by omega, x + 1, x, s, by simp [k0], by simp [k1], by simp, by simp, by simp, by omega, fun q => by omega, fun _ => by simpa using hp2, xx.trans x2⟩))
          · by_cases hs2 : s < least
            · rw [if_pos (.inr hs2)] at hp2
              simp [J_tree_Place_4, k5, hb, k6, hs2, k7, k8, J_tree_Place_3, wx]
              exact Tells.ok (hQ2 _ _ (.inl ⟨rfl, k, by omega, x + 1, x, s, by simp [k0], by simp [k1], by simp, by simp, by simp, by omega, fun q => by omega, fun _ => by simpa using hp2, xx.trans x2⟩))
            · rw [if_neg (by omega)] at hp2
              simp [J_tree_Place_4, k5, hb, k6, hs2, k7, k8, J_tree_Place_3, wx]
              exact Tells.ok (hQ2 _ _ (.inl ⟨rfl, k, by omega, x + 1, best, least, by simp [k0], by simp [k1], by simp [k5], by simp [k6], by simp, by omega, fun q => by omega, fun _ => by simpa using hp2, xx.trans x2⟩))
        · simp only at k4
          have hp2 : placeF ys l = -1 := by rw [hp]; simp only [placeN, hs]
          simp
          exact Tells.ok (hQ2 _ _ (.inr ⟨by simp, xx.trans x2, .inr ⟨rfl, by rw [hp2]; simpa using k4⟩⟩))
      · have h2' : ¬ (0 : Int) < l.length := by omega
        have hl0 : l.length = 0 := by omega
        simp [e7, e0, og.len, h1', e1, olg.len, hl0]
        exact Tells.ok (hQ2 _ _ (.inr ⟨by simp, xx, .inl ⟨rfl, by simp [e5, placeF, hl0, hz hl0]⟩⟩))
    · have h1' : ¬ (x : Int) ≤ ys.length := by omega
      simp [e7, e0, og.len, h1']
      refine Tells.ok (hQ2 _ _ (.inr ⟨by simp, xx, .inl ⟨rfl, ?_⟩⟩))
      have hn0 : n = 0 := by omega
      subst hn0
      by_cases hl0 : l.length = 0
      · simp [e5, placeF, hl0, hz hl0]
      · rw [hp hl0]
        simp [e5, placeN]
  · refine ⟨0, -1, 0, by simp, by simp, by simp, by simp, by simp, by omega, fun _ => rfl, fun q => ?_, .refl⟩
    unfold placeF
    rw [if_neg q]
    rfl
  · rintro ⟨ex, t⟩ g ⟨xx, ⟨rfl, k⟩ | ⟨rfl, k⟩⟩
    · simp only at k
      simp [J_tree_Place_0, k]
      exact Tells.ok (hQ _ _ ⟨rfl, xx⟩)
    · simp only at k
      simp [k]
      exact Tells.ok (hQ _ _ ⟨rfl, xx⟩)

end
end Go.Proofs.Ythachecebkmlaaa
