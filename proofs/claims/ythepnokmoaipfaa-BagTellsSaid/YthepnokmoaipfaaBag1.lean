/-
  What bag's Twice and All tell.
-/
import Derived.Test.YthepnokmoaipfaaBag0
set_option linter.unusedVariables false
set_option linter.unusedSimpArgs false
namespace Go.Proofs.Ythepnokmoaipfaa
open Go.Ab

section
variable {X : XTab}

theorem bag_Twice (hX : OnlyKnown X) {bp : Nat} {s : AVal} {l : List Dgram} (k : Int) (hk : In64 k) {h : Heap} (r : BagR h bp s l) : Tells (fun q => acallX Try.prog X q F_bag_Bag_Twice [.ptr bp 0, I k] h) fun v h' =>
    ∃ s', (∀ d, 0 ≤ k → l[k.toNat]? = some d → v = .bool (decide (l.length < 600)) ∧ BagR h' bp s' (putL l [d])) ∧ ((k < 0 ∨ (l.length : Int) ≤ k) → v = .bool false ∧ BagR h' bp s' l) ∧ Ext (bp :: s.blks) h h' ∧ ∀ b, b ∈ s'.blks → b ∈ s.blks ∨ h.next ≤ b := by
  refine R_bag_Bag_Twice _ _ (hX _ _ rfl) ?_
  refine Tells.prot fun Q' hQ => ?_
  unfold S_bag_Bag_Twice
  simp
  refine Tells.bind (bag_is hX k r) ?_
  rintro v h ⟨rfl, rfl⟩
  by_cases hin : 0 ≤ k ∧ k < l.length
  · obtain ⟨k0, k1⟩ := hin
    obtain ⟨d, hd⟩ : ∃ d, l[k.toNat]? = some d := ⟨_, List.getElem?_eq_getElem (by omega)⟩
    obtain ⟨b, p, B, c, q1, q2, q3⟩ := r.2.1.1.at (n := 3) rfl k0 hd
    have hlen : c.length = 3 := dgR.len q3
    have q4 := q2.lda (n := 3) hlen
    simp only [ldn_ptr] at q4
    have ht : (decide (0 ≤ k) && decide (k < l.length)) = true := by simp; omega
    simp only [ht]
    simp [r.1.1, q1, q4]
    refine Tells.lit (r := dgR) (xs := [d]) (css := [c]) (by rfl) ⟨q3, trivial⟩ (by rfl) (by simp) (bsl1_agg (by rfl) hlen) fun v1 h1 g1 x1 _ => ?_
    try simp
    refine Tells.bind (bag_Put hX (r.e x1) g1.1 (by intro e he; simp at he; subst he; exact r.2.2.1 _ (List.mem_of_getElem? hd)) (by simp)) ?_
    rintro _ h2 ⟨rfl, s', r2, x2, z2⟩
    simp
    refine Tells.ok (hQ _ _ ⟨s', fun d' _ hd' => ?_, fun hh => by omega, x1.of.trans x2, fun b hb => ?_⟩)
    · rw [hd] at hd'; cases hd'
      refine ⟨?_, r2⟩
      congr 1
      have : ((min 1 (600 - l.length) : Nat) : Int) = 1 ↔ l.length < 600 := by omega
      by_cases q : l.length < 600
      · simp [q, this.2 q]
      · have : ((min 1 (600 - l.length) : Nat) : Int) = 0 := by omega
        simp [q, this]
    · rcases z2 b hb with z | z
      · exact .inl z
      · right; have := x1.next; omega
  · have hf : (decide (0 ≤ k) && decide (k < l.length)) = false := by simp; omega
    simp only [hf]
    simp
    refine Tells.ok (hQ _ _ ⟨s, fun d' k0 hd' => ?_, fun _ => ⟨rfl, r⟩, .refl, fun b hb => .inl hb⟩)
    have := (List.getElem?_eq_some_iff.1 hd').1; omega

theorem bag_All (hX : OnlyKnown X) {bp : Nat} {s : AVal} {l : List Dgram} {h : Heap} (r : BagR h bp s l) : Tells (fun q => acallX Try.prog X q F_bag_Bag_All [.ptr bp 0] h) fun v h' => Gl (dgF h) h h' v l ∧ Ext [] h h' := by
  refine R_bag_Bag_All _ (hX _ _ rfl) ?_
  refine Tells.prot fun Q' hQ => ?_
  unfold S_bag_Bag_All
  simp [r.1.1, r.2.1.1.len]
  refine Tells.bind (Tells.loop (fun n t g => ∃ i : Nat, t 9 = s ∧ t 10 = I l.length ∧ t 11 = I i ∧ i + n = l.length ∧ Gl (dgF h) h g (t 3) (l.take i) ∧ Ext [] h g)
    (Q := fun p g => p.1 = .exit 0 ∧ Gl (dgF h) h g (p.2 3) l ∧ Ext [] h g) ?_ l.length _ _ ?_) ?_
  · rintro n t g ⟨i, t9, t10, t11, hi, go, x⟩
    refine Tells.prot fun Q2 hQ2 => ?_
    unfold L_bag_Bag_All_1
    simp [t10, t11]
    refine Tells.cb (fun hc => ?_) (fun hc => ?_)
    · simp at hc
      have h600 := r.2.2.2
      obtain ⟨d, hdi⟩ : ∃ d, l[i]? = some d := ⟨_, List.getElem?_eq_getElem hc⟩
      obtain ⟨b, p, B, c, q1, q2, q3⟩ := (r.2.1.1.ext x).at (n := 3) rfl (i := (i : Int)) (by omega) (by simpa using hdi)
      have hlen : c.length = 3 := dgR.len q3
      have q4 := q2.lda (n := 3) hlen
      simp only [ldn_ptr] at q4
      have w : IntKind.i64.wrap ((i : Int) + 1) = i + 1 := wrap_id (by omega) (by omega)
      simp [J_bag_Bag_All_2, t9, t11, q1, q4]
      refine Tells.newSt (by rfl) (by rfl) hlen (dgR.one q3) fun h1 b1 o1 x1 l1 => ?_
      simp [o1.1, hlen, List.take_of_length_le (Nat.le_of_eq hlen)]
      refine Tells.bind (bag_clone hX (dgR.ext q3 x1) (r.2.2.1 d (List.mem_of_getElem? hdi))) ?_
      rintro _ h2 ⟨c2, rfl, k2, x2⟩
      have k3 : (dgF h).rep h2 c2 d := by
        obtain ⟨v, e, s, w⟩ := k2
        exact ⟨v, e, s, w.back (Nat.le_trans x.next x1.next)⟩
      have x02 := (x.trans x1).trans x2
      try simp
      refine Tells.app1 ((go.e x1).e x2) (by rfl) (by rfl) k3 (by rfl) (by rfl) (by simp; omega) (by decide) x02.next fun s3 h3 g3 x3 y3 z3 => ?_
      simp [J_bag_Bag_All_3, t11, w]
      refine Tells.ok (hQ2 _ _ (.inl ⟨rfl, n - 1, by omega, i + 1, by simp [t9], by simp [t10], by simp, by omega, ?_, y3 _ x02⟩))
      have : l.take (i + 1) = l.take i ++ [d] := by rw [List.take_add_one, hdi]; rfl
      rw [this]
      simpa using g3
    · simp at hc
      refine Tells.ok (hQ2 _ _ (.inr ⟨by simp, rfl, ?_, x⟩))
      rw [List.take_of_length_le (by omega)] at go
      simpa using go
  · exact ⟨0, by simp, by simp, by simp, by omega, by simpa using Gl.nil, .refl⟩
  · rintro ⟨ex, t⟩ g ⟨rfl, go, x⟩
    simp [J_bag_Bag_All_0]
    exact Tells.ok (hQ _ _ ⟨go, x⟩)

end
end Go.Proofs.Ythepnokmoaipfaa
