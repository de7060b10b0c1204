/-
  What precentorref9's In and Put tell.
-/
import Derived.Test.YtebkohdmoaginaaB2
import Derived.Test.YtebkohdmoaginaaSprecentorref9
set_option linter.unusedVariables false
set_option linter.unusedSimpArgs false
namespace Go.Proofs.Ytebkohdmoaginaa
open Go.Ab

section
variable {X : XTab}

def putL (xs : List Int) (p : Int) : List Int := if xs.any (· == p) = true then xs else xs.takeWhile (fun x => decide (x < p)) ++ [p] ++ xs.filter (fun x => decide (p < x))

theorem ref_In (hX : OnlyKnown X) {h : Heap} {v : AVal} {xs : List Int} (o : Sl intR h v xs) (hl : xs.length < 2 ^ 62) (a : Int) :
    Tells (fun q => acallX Try.prog X q F_precentorref9_In [v, I a] h) fun r h' => r = .bool (xs.any (· == a)) ∧ h' = h := by
  refine R_precentorref9_In _ _ (hX _ _ rfl) ?_
  refine Tells.prot fun Q' hQ => ?_
  unfold S_precentorref9_In
  simp
  refine Tells.bind (Tells.loop (fun n t g => ∃ i : Nat, t 0 = v ∧ t 1 = I a ∧ t 5 = I i ∧ i + n = xs.length ∧ g = h ∧ (xs.any (· == a)) = ((xs.drop i).any (· == a)))
    (Q := fun p g => g = h ∧ ((p.1 = .exit 0 ∧ (xs.any (· == a)) = false) ∨ (p.1 = .ret ∧ p.2 4 = .bool true ∧ (xs.any (· == a)) = true))) ?_ xs.length _ _ ?_) ?_
  · rintro n t g ⟨i, t0, t1, t5, hi, rfl, ha⟩
    refine Tells.prot fun Q2 hQ2 => ?_
    unfold L_precentorref9_In_1
    simp [t5, t0, o.len]
    refine Tells.cb (fun hc => ?_) (fun hc => ?_)
    · simp at hc
      obtain ⟨x, hdi⟩ : ∃ d, xs[i]? = some d := ⟨_, List.getElem?_eq_getElem hc⟩
      have hd : xs.drop i = x :: xs.drop (i + 1) := by
        rw [List.drop_eq_getElem_cons hc]; congr 1; exact (List.getElem?_eq_some_iff.1 hdi).2
      obtain ⟨b, pp, B, q1, q2, q3⟩ := o.atI hdi
      have w : IntKind.i64.wrap ((i : Int) + 1) = i + 1 := wrap_id (by omega) (by omega)
      rw [hd, List.any_cons] at ha
      by_cases e : x = a
      · subst e
        simp [J_precentorref9_In_2, t0, t5, t1, q1, q2, q3]
        exact Tells.ok (hQ2 _ _ (.inr ⟨by simp, rfl, .inr ⟨rfl, by simp, by rw [ha]; simp⟩⟩))
      · simp [J_precentorref9_In_2, t0, t5, t1, q1, q2, q3, e, beq_eq_false_iff_ne.2 e, J_precentorref9_In_3, w]
        exact Tells.ok (hQ2 _ _ (.inl ⟨rfl, n - 1, by omega, i + 1, by simp [t0], by simp [t1], by simp, by omega, rfl, by rw [ha, beq_eq_false_iff_ne.2 e]; rfl⟩))
    · simp at hc
      exact Tells.ok (hQ2 _ _ (.inr ⟨by simp, rfl, .inl ⟨rfl, by rw [ha, List.drop_eq_nil_of_le (by omega)]; rfl⟩⟩))
  · exact ⟨0, by simp, by simp, by simp, by omega, rfl, rfl⟩
  · rintro ⟨ex, t⟩ g ⟨rfl, ⟨rfl, q⟩ | ⟨rfl, q, q'⟩⟩
    · simp [J_precentorref9_In_0]
      exact Tells.ok (hQ _ _ ⟨by rw [q], rfl⟩)
    · simp only at q
      simp [q]
      exact Tells.ok (hQ _ _ ⟨by rw [q'], rfl⟩)

theorem tw_at {xs : List Int} {i : Nat} {x : Int} (h : xs[i]? = some x) (f : Int → Bool) : (xs.drop i).takeWhile f = if f x = true then x :: (xs.drop (i + 1)).takeWhile f else [] := by
  have hlt := (List.getElem?_eq_some_iff.1 h).1
  rw [List.drop_eq_getElem_cons hlt, (List.getElem?_eq_some_iff.1 h).2, List.takeWhile_cons]

theorem ref_Put (hX : OnlyKnown X) {h : Heap} {v : AVal} {xs : List Int} (o : Sl intR h v xs) (hl : xs.length < 2 ^ 30) (p : Int) :
    Tells (fun q => acallX Try.prog X q F_precentorref9_Put [v, I p] h) fun a h' => Sl intR h' a (putL xs p) ∧ Ext [] h h' := by
  refine R_precentorref9_Put _ _ (hX _ _ rfl) ?_
  refine Tells.prot fun Q' hQ => ?_
  unfold S_precentorref9_Put
  simp
  refine Tells.bind (ref_In hX o (by omega) p) ?_
  rintro _ h ⟨rfl, rfl⟩
  cases hin : xs.any (· == p) with
  | true =>
    simp
    refine Tells.ok (hQ _ _ ⟨?_, .refl⟩)
    unfold putL
    rw [if_pos hin]
    exact o
  | false =>
    have hp : putL xs p = xs.takeWhile (fun x => decide (x < p)) ++ [p] ++ xs.filter (fun x => decide (p < x)) := by
      unfold putL
      rw [if_neg (by rw [hin]; simp)]
    simp [J_precentorref9_Put_0]
    refine Tells.bind (Tells.loop (fun n t g => ∃ i : Nat, t 0 = v ∧ t 1 = I p ∧ t 6 = I i ∧ i + n = xs.length ∧ Gl intR h g (t 5) (xs.take i) ∧ Ext [] h g ∧ xs.takeWhile (fun x => decide (x < p)) = xs.take i ++ (xs.drop i).takeWhile (fun x => decide (x < p)))
      (Q := fun r g => r.1 = .exit 0 ∧ r.2 0 = v ∧ r.2 1 = I p ∧ Gl intR h g (r.2 5) (xs.takeWhile (fun x => decide (x < p))) ∧ Ext [] h g) ?_ xs.length _ _ ?_) ?_
    · rintro n t g ⟨i, t0, t1, t6, hi, go, x, htw⟩
      refine Tells.prot fun Q2 hQ2 => ?_
      have og := o.ext x
      unfold L_precentorref9_Put_6
      simp [t6, t0, og.len]
      by_cases hc : i < xs.length
      · obtain ⟨y, hdi⟩ : ∃ d, xs[i]? = some d := ⟨_, List.getElem?_eq_getElem hc⟩
        obtain ⟨b, pp, B, q1, q2, q3⟩ := og.atI hdi
        have w : IntKind.i64.wrap ((i : Int) + 1) = i + 1 := wrap_id (by omega) (by omega)
        rw [tw_at hdi] at htw
        by_cases hy : y < p
        · rw [if_pos (by simpa using hy)] at htw
          simp [hc, t0, t6, q1, q2, q3, t1, hy, J_precentorref9_Put_7]
          refine Tells.app1 go (by rfl) (by rfl) (show intR.rep g [I y] y from rfl) (by rfl) (by rfl) (by simp; omega) (by decide) x.next fun s6 h6 g6 x6 y6 z6 => ?_
          simp [J_precentorref9_Put_8, t6, w]
          have htk : xs.take (i + 1) = xs.take i ++ [y] := by rw [List.take_add_one, hdi]; rfl
          exact Tells.ok (hQ2 _ _ (.inl ⟨rfl, n - 1, by omega, i + 1, by simp [t0], by simp [t1], by simp, by omega, by rw [htk]; simpa using g6, y6 [] x, by rw [htw, htk]; simp⟩))
        · rw [if_neg (by simpa using hy)] at htw
          simp [hc, t0, t6, q1, q2, q3, t1, hy]
          exact Tells.ok (hQ2 _ _ (.inr ⟨by simp, rfl, by simp [t0], by simp [t1], by rw [htw]; simpa using go, x⟩))
      · simp [hc]
        rw [List.drop_eq_nil_of_le (by omega)] at htw
        exact Tells.ok (hQ2 _ _ (.inr ⟨by simp, rfl, by simp [t0], by simp [t1], by rw [htw]; simpa using go, x⟩))
    · exact ⟨0, by simp, by simp, by simp, by omega, by simpa using Gl.nil, .refl, by simp⟩
    · rintro ⟨ex, t⟩ g ⟨rfl, t0, t1, go, x⟩
      simp only at t0 t1 go
      have hle : (xs.takeWhile (fun x => decide (x < p))).length ≤ xs.length := (List.takeWhile_prefix _).length_le
      generalize xs.takeWhile (fun x => decide (x < p)) = ys at go hp hle
      simp [J_precentorref9_Put_1, t1]
      refine Tells.app1 go (by rfl) (by rfl) (show intR.rep g [I p] p from rfl) (by rfl) (by rfl) (by omega) (by decide) x.next fun s6 h6 g6 x6 y6 z6 => ?_
      have xg6 := y6 [] x
      try simp
      refine Tells.bind (Tells.loop (fun n t g => ∃ i : Nat, t 0 = v ∧ t 1 = I p ∧ t 7 = I i ∧ i + n = xs.length ∧ Gl intR h g (t 5) (ys ++ [p] ++ (xs.take i).filter (fun x => decide (p < x))) ∧ Ext [] h g)
        (Q := fun r g => r.1 = .exit 2 ∧ Gl intR h g (r.2 5) (ys ++ [p] ++ xs.filter (fun x => decide (p < x))) ∧ Ext [] h g) ?_ xs.length _ _ ?_) ?_
      · rintro n t g ⟨i, t0, t1, t7, hi, go, x⟩
        refine Tells.prot fun Q2 hQ2 => ?_
        have og := o.ext x
        unfold L_precentorref9_Put_3
        simp [t7, t0, og.len]
        refine Tells.cb (fun hc => ?_) (fun hc => ?_)
        · simp at hc
          obtain ⟨y, hdi⟩ : ∃ d, xs[i]? = some d := ⟨_, List.getElem?_eq_getElem hc⟩
          obtain ⟨b, pp, B, q1, q2, q3⟩ := og.atI hdi
          have w : IntKind.i64.wrap ((i : Int) + 1) = i + 1 := wrap_id (by omega) (by omega)
          have hfl : ((xs.take i).filter (fun x => decide (p < x))).length ≤ i := Nat.le_trans (List.length_filter_le _ _) (by simp; omega)
          have htk : (xs.take (i + 1)).filter (fun x => decide (p < x)) = (xs.take i).filter (fun x => decide (p < x)) ++ if p < y then [y] else [] := by
            rw [List.take_add_one, hdi]; simp [List.filter_append, List.filter_cons]
          by_cases hy : p < y
          · rw [if_pos hy] at htk
            simp [J_precentorref9_Put_4, t0, t7, q1, q2, q3, t1, hy]
            refine Tells.app1 go (by rfl) (by rfl) (show intR.rep g [I y] y from rfl) (by rfl) (by rfl) (by simp only [List.length_append, List.length_singleton]; omega) (by decide) x.next fun s8 h8 g8 x8 y8 z8 => ?_
            simp [J_precentorref9_Put_5, t7, w]
            exact Tells.ok (hQ2 _ _ (.inl ⟨rfl, n - 1, by omega, i + 1, by simp [t0], by simp [t1], by simp, by omega, by rw [htk]; simpa using g8, y8 [] x⟩))
          · rw [if_neg hy] at htk
            simp [J_precentorref9_Put_4, t0, t7, q1, q2, q3, t1, hy, J_precentorref9_Put_5, w]
            exact Tells.ok (hQ2 _ _ (.inl ⟨rfl, n - 1, by omega, i + 1, by simp [t0], by simp [t1], by simp, by omega, by rw [htk]; simpa using go, x⟩))
        · simp at hc
          rw [List.take_of_length_le (by omega)] at go
          exact Tells.ok (hQ2 _ _ (.inr ⟨by simp, rfl, by simpa using go, x⟩))
      · exact ⟨0, by simp [t0], by simp [t1], by simp, by omega, by simpa using g6, xg6⟩
      · rintro ⟨ex, t⟩ g ⟨rfl, go, x⟩
        simp only at go
        simp [J_precentorref9_Put_2]
        exact Tells.ok (hQ _ _ ⟨by rw [hp]; exact go.1, x⟩)

end
end Go.Proofs.Ytebkohdmoaginaa
