/-
  Law TreePlaces: the walk's end.
-/
import Derived.Test.YthachecebkmlaaaLaw9c
set_option linter.unusedVariables false
set_option linter.unusedSimpArgs false
namespace Go.Proofs.Ythachecebkmlaaa
open Go.Ab

theorem placeN_congr {ys l l' : List Int} (hs : ∀ x : Int, 0 ≤ x → x ≤ ys.length → sumG ys x 0 l = sumG ys x 0 l') : ∀ (k x : Nat) (best least : Int), x + k = ys.length + 1 → placeN ys l k x best least = placeN ys l' k x best least
  | 0, x, best, least, _ => rfl
  | k + 1, x, best, least, h => by
    simp only [placeN]
    rw [hs x (by omega) (by omega)]
    have h1 := fun (b c : Int) => placeN_congr hs k (x + 1) b c (by omega)
    simp only [Int.natCast_add, Int.natCast_one] at h1
    simp only [h1]

section
variable {X : XTab}

theorem places (hX : OnlyKnown X) (hk : X F_precentorlaw9_known [] = some (.bool true)) {h : Heap} {l u : AVal} {ls ms : List Int} (ol : RawInts h l ls) (om : RawInts h u ms) :
    Tells (fun m => acallX Try.prog X m F_precentorlaw9_TreePlaces [l, u] h) fun a h' => a = .bool true := by
  refine R_precentorlaw9_TreePlaces _ _ (hX _ _ rfl) ?_
  refine Tells.prot fun Q' hQ => ?_
  unfold S_precentorlaw9_TreePlaces
  simp [bldR, fillR, splice, ol.sl.known, ol.sl.cells]
  refine Tells.box rfl rfl fun h1 bf f1 x1 l1 => ?_
  try simp
  refine Tells.bind (Tree hX 8 ⟨by omega, by omega⟩ (by omega) (RawInts.feed (ol.ext x1) f1) (by omega)) ?_
  rintro v h2 ⟨ys, gy, ok, hlt, _, x2, _⟩
  have hl7 : ys.length ≤ 7 := by have := hlt (by omega); omega
  try simp
  refine Tells.new fun h3 bp o3 x3 l3 => ?_
  try simp
  refine Tells.st1 o3 gy.1.cells gy.1.one (by simp) fun h4 o4 x4 => ?_
  have o4 : Ob h4 bp [v] := by simpa using o4
  try simp
  refine Tells.new fun h5 bq o5 x5 l5 => ?_
  have ne : bq ≠ bp := by have := o4.lt; omega
  have y5 := ((gy.1.ext x3).ext x4).ext x5
  have m5 := ((((om.ext x1).ext x2).ext x3).ext x4).ext x5
  try simp
  refine Tells.bind (placesMake hX (t5 := .nils) ne (by simp) (by simp) (by simp) (by simp) (by simp) m5.sl (o4.e x5) o5 y5 (by omega)) ?_
  rintro ⟨ex, t⟩ g ⟨rfl, t6, t7, w, qs, oq, op, oy, ow, orv, hq8, hqr⟩
  simp only at t6 t7 orv
  generalize ht8 : t 8 = rv at orv
  have isr : ∀ y : Int, 0 ≤ y → y ≤ ys.length → isT ys y = true := fun y h0 h1 => by
    unfold isT rightT
    simp only [Bool.and_eq_true, decide_eq_true_eq]
    refine ⟨⟨⟨(rightFrom_all ys 0).2 fun i z hz => ?_, hl7⟩, h0⟩, h1⟩
    have := ok i z hz
    simpa using this
  have hG : ∀ x : Int, 0 ≤ x → x ≤ ys.length → sumG ys x 0 qs = some (sumA ys x qs) := fun x h0 h1 => by
    rw [sumG_all (isr x h0 h1) qs 0 (fun y hy => isr y (hqr y hy).1 (hqr y hy).2)]; simp
  have hGr : ∀ x : Int, 0 ≤ x → x ≤ ys.length → sumG ys x 0 qs.reverse = sumG ys x 0 qs := fun x h0 h1 => by
    rw [hG x h0 h1, sumG_all (isr x h0 h1) qs.reverse 0 (fun y hy => isr y (hqr y (by simpa using hy)).1 (hqr y (by simpa using hy)).2), sumA_rev]; simp
  have hrev : placeF ys qs.reverse = placeF ys qs := by
    unfold placeF
    rw [List.length_reverse]
    split
    · rfl
    · exact placeN_congr hGr (ys.length + 1) 0 (-1) 0 (by omega)
  simp [J_precentorlaw9_TreePlaces_0, t6, t7, op.1, oq.1]
  refine Tells.bind (tree_Place hX oy (by omega) ow (by omega)) ?_
  rintro _ g1 ⟨rfl, y1⟩
  try simp
  refine Tells.bind (known_X hk g1) ?_
  rintro _ g1 ⟨rfl, rfl⟩
  have op1 := op.e y1
  have oq1 := oq.e y1
  simp [t6, op1.1, ht8]
  refine Tells.bind (tree_Place hX (oy.ext y1) (by omega) (orv.ext y1) (by simp; omega)) ?_
  rintro _ g2 ⟨rfl, y2⟩
  have op2 := op1.e y2
  have oq2 := oq1.e y2
  have ow2 := (ow.ext y1).ext y2
  have oy2 := (oy.ext y1).ext y2
  by_cases hz : qs.length = 0
  · simp [hrev, t7, oq2.1, ow2.len, hz]
    refine Tells.bind (known_X hk g2) ?_
    rintro _ g2 ⟨rfl, rfl⟩
    have hp : placeF ys qs = -1 := by unfold placeF; rw [if_pos hz]
    simp [hp, t7, oq2.1, ow2.len, hz]
    exact Tells.ok (hQ _ _ rfl)
  · have hz2 : ((qs.length : Int) == 0) = false := beq_eq_false_iff_ne.2 (by omega)
    have hp : placeF ys qs = placeN ys qs (ys.length + 1) 0 (-1) 0 := by unfold placeF; rw [if_neg hz]
    obtain ⟨b1, b2, b3⟩ := placeN_best hG (ys.length + 1) 0 (-1) 0 (by omega) (.inl ⟨rfl, rfl⟩) (.inl (by omega))
    have hp' : placeN ys qs (ys.length + 1) ((0 : Nat) : Int) (-1) 0 = placeF ys qs := hp.symm
    rw [hp'] at b1 b2 b3
    simp [hrev, t7, oq2.1, ow2.len, hz2, J_precentorlaw9_TreePlaces_1, t6, op2.1, oy2.len, show ¬ placeF ys qs < 0 by omega, show ¬ (ys.length : Int) < placeF ys qs by omega, J_precentorlaw9_TreePlaces_2]
    refine Tells.bind (placesCheck hX (at_ := placeF ys qs) (by simp [t6]) (by simp) (by simp) (by simp) oq2 op2 oy2 (by omega) ow2 (by omega) b3) ?_
    rintro ⟨ex, t⟩ g3 rfl
    simp [J_precentorlaw9_TreePlaces_3]
    exact Tells.ok (hQ _ _ rfl)
end
end Go.Proofs.Ythachecebkmlaaa
