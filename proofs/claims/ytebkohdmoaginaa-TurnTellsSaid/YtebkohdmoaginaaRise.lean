/-
  Rising lists; who is a kid.
-/
import Derived.Test.YtebkohdmoaginaaPath4a
set_option linter.unusedVariables false
set_option linter.unusedSimpArgs false
namespace Go.Proofs.Ytebkohdmoaginaa
open Go.Ab

section
variable {X : XTab}

theorem sorted_ext : ∀ (l m : List Int), l.Pairwise (· < ·) → m.Pairwise (· < ·) → (∀ x, x ∈ l ↔ x ∈ m) → l = m
  | [], [], _, _, _ => rfl
  | [], y :: m, _, _, h => by have := (h y).2 (by simp); simp at this
  | x :: l, [], _, _, h => by have := (h x).1 (by simp); simp at this
  | x :: l, y :: m, hl, hm, h => by
    rw [List.pairwise_cons] at hl hm
    have e : x = y := by
      have h1 := (h x).1 (by simp)
      have h2 := (h y).2 (by simp)
      simp at h1 h2
      rcases h1 with h1 | h1
      · exact h1
      · rcases h2 with h2 | h2
        · exact h2.symm
        · have := hl.1 y h2; have := hm.1 x h1; omega
    subst e
    congr 1
    refine sorted_ext l m hl.2 hm.2 fun z => ⟨fun hz => ?_, fun hz => ?_⟩
    · have := (h z).1 (by simp [hz])
      simp at this
      rcases this with q | q
      · subst q; have := hl.1 z hz; omega
      · exact q
    · have := (h z).2 (by simp [hz])
      simp at this
      rcases this with q | q
      · subst q; have := hm.1 z hz; omega
      · exact q

theorem mem_fromN {p : Int → Bool} {z : Int} : ∀ {k : Nat} {x : Int}, z ∈ fromN p k x ↔ x ≤ z ∧ z < x + k ∧ p z = true
  | 0, x => by simp [fromN]; omega
  | k + 1, x => by
    simp only [fromN]
    by_cases h : p x = true
    · rw [if_pos h, List.mem_cons, mem_fromN]
      constructor
      · rintro (rfl | q)
        · exact ⟨by omega, by omega, h⟩
        · exact ⟨by omega, by omega, q.2.2⟩
      · rintro ⟨q1, q2, q3⟩
        by_cases e : z = x
        · exact .inl e
        · exact .inr ⟨by omega, by omega, q3⟩
    · rw [if_neg h, mem_fromN]
      constructor
      · rintro ⟨q1, q2, q3⟩; exact ⟨by omega, by omega, q3⟩
      · rintro ⟨q1, q2, q3⟩
        have : z ≠ x := fun e => h (by rw [← e]; exact q3)
        exact ⟨by omega, by omega, q3⟩

theorem fromN_sorted {p : Int → Bool} : ∀ {k : Nat} {x : Int}, (fromN p k x).Pairwise (· < ·)
  | 0, x => by simp [fromN]
  | k + 1, x => by
    simp only [fromN]
    split
    · exact List.pairwise_cons.2 ⟨fun z hz => by have := (mem_fromN.1 hz).1; omega, fromN_sorted⟩
    · exact fromN_sorted

theorem mem_kidsN {b z : Int} : ∀ {l : List Int} {i : Nat}, z ∈ kidsN b i l ↔ ∃ j : Nat, l[j]? = some b ∧ z = i + j + 1
  | [], i => by simp [kidsN]
  | x :: r, i => by
    simp only [kidsN]
    have ih := mem_kidsN (b := b) (z := z) (l := r) (i := i + 1)
    have tail : (z ∈ kidsN b (i + 1) r) ↔ ∃ j : Nat, (x :: r)[j + 1]? = some b ∧ z = i + (j + 1 : Nat) + 1 := by
      rw [ih]
      constructor
      · rintro ⟨j, h1, h2⟩; exact ⟨j, by simpa using h1, by omega⟩
      · rintro ⟨j, h1, h2⟩; exact ⟨j, by simpa using h1, by omega⟩
    by_cases h : x = b
    · rw [if_pos h, List.mem_cons, tail]
      constructor
      · rintro (q | ⟨j, h1, h2⟩)
        · exact ⟨0, by simp [h], by omega⟩
        · exact ⟨j + 1, h1, h2⟩
      · rintro ⟨j, h1, h2⟩
        cases j with
        | zero => exact .inl (by omega)
        | succ j => exact .inr ⟨j, h1, h2⟩
    · rw [if_neg h, tail]
      constructor
      · rintro ⟨j, h1, h2⟩; exact ⟨j + 1, h1, h2⟩
      · rintro ⟨j, h1, h2⟩
        cases j with
        | zero => simp at h1; exact absurd h1 h
        | succ j => exact ⟨j, h1, h2⟩

theorem kidsN_sorted {b : Int} : ∀ {l : List Int} {i : Nat}, (kidsN b i l).Pairwise (· < ·)
  | [], i => by simp [kidsN]
  | x :: r, i => by
    simp only [kidsN]
    split
    · exact List.pairwise_cons.2 ⟨fun z hz => by obtain ⟨j, _, e⟩ := mem_kidsN.1 hz; omega, kidsN_sorted⟩
    · exact kidsN_sorted

end
end Go.Proofs.Ytebkohdmoaginaa
