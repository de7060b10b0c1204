/-
  Law TreePlaces: what Place tells is least, and first.
-/
import Derived.Test.YthachecebkmlaaaLaw9a
set_option linter.unusedVariables false
set_option linter.unusedSimpArgs false
namespace Go.Proofs.Ythachecebkmlaaa
open Go.Ab

theorem trim_ne : ∀ (k : Nat) (x y : List Int), 1 ≤ x.length → 1 ≤ (trim k x y).1.length
  | 0, _, _, h => h
  | k + 1, x, y, h => by
    simp only [trim]
    split
    · rename_i hh
      exact trim_ne k x.dropLast y.dropLast (by simp; omega)
    · exact h
theorem distF_ge {ys : List Int} {a b : Int} (ha : isT ys a = true) (hb : isT ys b = true) : 0 ≤ distF ys a b := by
  unfold distF
  rw [if_pos ⟨ha, hb⟩]
  have h1 := trim_ne 9 (upF ys a) (upF ys b) (upN_len _ _ _).1
  unfold pathF
  simp
  omega
theorem sumG_all {ys : List Int} {x : Int} (hx : isT ys x = true) : ∀ (l : List Int) (s : Int), (∀ y, y ∈ l → isT ys y = true) → sumG ys x s l = some (s + sumA ys x l)
  | [], s, _ => by simp [sumG, sumA]
  | y :: r, s, h => by
    have h1 := distF_ge hx (h y (by simp))
    have ih := sumG_all hx r (s + distF ys x y) (fun z hz => h z (by simp [hz]))
    simp only [sumG]
    rw [if_neg (by omega), ih]
    have e : sumA ys x (y :: r) = distF ys x y + sumA ys x r := rfl
    rw [e, Int.add_assoc]
theorem sumA_ge {ys : List Int} {x : Int} (hx : isT ys x = true) : ∀ (l : List Int), (∀ y, y ∈ l → isT ys y = true) → 0 ≤ sumA ys x l
  | [], _ => by simp [sumA]
  | y :: r, h => by
    have h1 := distF_ge hx (h y (by simp))
    have ih := sumA_ge hx r (fun z hz => h z (by simp [hz]))
    have e : sumA ys x (y :: r) = distF ys x y + sumA ys x r := rfl
    rw [e]; omega
theorem sumA_app (ys : List Int) (x : Int) (a b : List Int) : sumA ys x (a ++ b) = sumA ys x a + sumA ys x b := by
  unfold sumA
  induction a with
  | nil => simp
  | cons c r ih => simp only [List.cons_append, List.map_cons, List.foldr_cons] at ih ⊢; rw [ih]; omega
theorem sumA_rev (ys : List Int) (x : Int) : ∀ l : List Int, sumA ys x l.reverse = sumA ys x l
  | [] => rfl
  | y :: r => by
    rw [List.reverse_cons, sumA_app, sumA_rev ys x r]
    show sumA ys x r + (distF ys x y + 0) = distF ys x y + sumA ys x r
    omega
/-- From x on, k more: the least, the first of them. -/
theorem placeN_best {ys l : List Int} (hs : ∀ x : Int, 0 ≤ x → x ≤ ys.length → sumG ys x 0 l = some (sumA ys x l)) : ∀ (k : Nat) (x : Nat) (best least : Int), x + k = ys.length + 1 →
    ((best = -1 ∧ x = 0) ∨ (0 ≤ best ∧ best < x ∧ least = sumA ys best l ∧ ∀ z : Int, 0 ≤ z → z < x → least ≤ sumA ys z l ∧ (z < best → least < sumA ys z l))) → (0 < k ∨ 0 ≤ best) →
    0 ≤ placeN ys l k x best least ∧ placeN ys l k x best least ≤ ys.length ∧ ∀ z : Int, 0 ≤ z → z ≤ ys.length → sumA ys (placeN ys l k x best least) l ≤ sumA ys z l ∧ (z < placeN ys l k x best least → sumA ys (placeN ys l k x best least) l < sumA ys z l)
  | 0, x, best, least, hk, h, hb => by
    simp only [placeN]
    rcases h with ⟨h1, h2⟩ | ⟨h1, h2, h3, h4⟩
    · omega
    · refine ⟨h1, by omega, fun z z0 z1 => ?_⟩
      rw [← h3]
      exact h4 z z0 (by omega)
  | k + 1, x, best, least, hk, h, hb => by
    simp only [placeN]
    rw [hs x (by omega) (by omega)]
    simp only
    split
    · rename_i hc
      refine placeN_best hs k (x + 1) x (sumA ys x l) (by omega) (.inr ⟨by omega, by omega, rfl, fun z z0 z1 => ?_⟩) (.inr (by omega))
      rcases h with ⟨h1, h2⟩ | ⟨h1, h2, h3, h4⟩
      · have : z = x := by omega
        subst this
        exact ⟨Int.le_refl _, fun q => by omega⟩
      · by_cases e : z = x
        · subst e; exact ⟨Int.le_refl _, fun q => by omega⟩
        · have := (h4 z z0 (by omega)).1
          exact ⟨by omega, fun _ => by omega⟩
    · rename_i hc
      rcases h with ⟨h1, h2⟩ | ⟨h1, h2, h3, h4⟩
      · omega
      · refine placeN_best hs k (x + 1) best least (by omega) (.inr ⟨h1, by omega, h3, fun z z0 z1 => ?_⟩) (.inr h1)
        by_cases e : z = x
        · subst e; exact ⟨by omega, fun q => by omega⟩
        · exact h4 z z0 (by omega)
end Go.Proofs.Ythachecebkmlaaa
