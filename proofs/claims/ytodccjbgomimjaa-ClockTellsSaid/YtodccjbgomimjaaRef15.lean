/-
  The document's own clock: what its functions tell.
-/
import Derived.Test.YtodccjbgomimjaaLaw15c
import Derived.Test.YtodccjbgomimjaaSprecentorref9
set_option linter.unusedVariables false
set_option linter.unusedSimpArgs false
namespace Go.Proofs.Ytodccjbgomimjaa
open Go.Ab

/-- Places and numbers, in two rows. -/
def Two (h : Heap) (p n : AVal) (s : Slots) : Prop := Sl intR h p (s.map (·.1)) ∧ Sl intR h n (s.map (·.2))
theorem Two.ext {S : List Nat} {h h' : Heap} {p n : AVal} {s : Slots} (o : Two h p n s) (x : Ext S h h') : Two h' p n s := ⟨o.1.ext x, o.2.ext x⟩

/-- Rising, and each due. -/
def riseF : Option Int → List (Int × Int) → Bool
  | _, [] => true
  | prev, (a, n) :: r => (match prev with | some b => decide (b < a) | none => true) && riseF (some a) r
def fits (s : Slots) (l : List (Int × Int)) : Bool := l.all fun x => !has s x.1 || decide (nxt s x.1 = x.2)
theorem dueF_split (s : Slots) : ∀ (l : List (Int × Int)) (p : Option Int), dueF s p l = (riseF p l && fits s l)
  | [], p => rfl
  | (a, n) :: r, p => by
    have := dueF_split s r (some a)
    unfold fits at this ⊢
    simp only [dueF, riseF, List.all_cons, this]
    ac_rfl
theorem riseF_at {l : List (Int × Int)} {i : Nat} {a n : Int} (h : l[i]? = some (a, n)) (prev : Option Int) : riseF prev (l.drop i) = ((match prev with | some b => decide (b < a) | none => true) && riseF (some a) (l.drop (i + 1))) := by
  have hlt := (List.getElem?_eq_some_iff.1 h).1
  rw [List.drop_eq_getElem_cons hlt, (List.getElem?_eq_some_iff.1 h).2]
  rfl
theorem fits_at {s : Slots} {l : List (Int × Int)} {i : Nat} {a n : Int} (h : l[i]? = some (a, n)) : fits s (l.drop i) = ((!has s a || decide (nxt s a = n)) && fits s (l.drop (i + 1))) := by
  have hlt := (List.getElem?_eq_some_iff.1 h).1
  rw [List.drop_eq_getElem_cons hlt, (List.getElem?_eq_some_iff.1 h).2]
  rfl

section
variable {X : XTab}

theorem ref_In (hX : OnlyKnown X) {h : Heap} {v : AVal} {xs : List Int} (o : Sl intR h v xs) (hl : xs.length < 2 ^ 62) (a : Int) :
    Tells (fun q => acallX Try.prog X q F_precentorref9_In [v, I a] h) fun r h' => r = .bool (xs.any (· == a)) ∧ h' = h := by
  refine R_precentorref9_In _ _ (hX _ _ rfl) ?_
  refine Tells.prot fun Q' hQ => ?_
  unfold S_precentorref9_In
  simp
  refine Tells.bind (Tells.loop (fun n t g => ∃ i : Nat, t 0 = v ∧ t 1 = I a ∧ t 5 = I i ∧ i + n = xs.length ∧ g = h ∧ (xs.any (· == a)) = ((xs.drop i).any (· == a)))
    (Q := fun p g => g = h ∧ ((p.1 = .exit 0 ∧ (xs.any (· == a)) = false) ∨ (p.1 = .ret ∧ p.2 4 = .bool true ∧ (xs.any (· == a)) = true))) ?_ xs.length _ _ ?_) ?_
  · rintro n t g ⟨i, t0, t1, t5, hi, rfl, ha⟩
    refine Tells.prot fun Q2 hQ2 => ?_
    unfold L_precentorref9_In_1
    simp [t5, t0, o.len]
    refine Tells.cb (fun hc => ?_) (fun hc => ?_)
    · simp at hc
      obtain ⟨x, hdi⟩ : ∃ d, xs[i]? = some d := ⟨_, List.getElem?_eq_getElem hc⟩
      have hd : xs.drop i = x :: xs.drop (i + 1) := by
        rw [List.drop_eq_getElem_cons hc]; congr 1; exact (List.getElem?_eq_some_iff.1 hdi).2
      obtain ⟨b, pp, B, q1, q2, q3⟩ := o.atI hdi
      have w : IntKind.i64.wrap ((i : Int) + 1) = i + 1 := wrap_id (by omega) (by omega)
      rw [hd, List.any_cons] at ha
      by_cases e : x = a
      · subst e
        simp [J_precentorref9_In_2, t0, t5, t1, q1, q2, q3]
        exact Tells.ok (hQ2 _ _ (.inr ⟨by simp, rfl, .inr ⟨rfl, by simp, by rw [ha]; simp⟩⟩))
      · simp [J_precentorref9_In_2, t0, t5, t1, q1, q2, q3, e, beq_eq_false_iff_ne.2 e, J_precentorref9_In_3, w]
        exact Tells.ok (hQ2 _ _ (.inl ⟨rfl, n - 1, by omega, i + 1, by simp [t0], by simp [t1], by simp, by omega, rfl, by rw [ha, beq_eq_false_iff_ne.2 e]; rfl⟩))
    · simp at hc
      exact Tells.ok (hQ2 _ _ (.inr ⟨by simp, rfl, .inl ⟨rfl, by rw [ha, List.drop_eq_nil_of_le (by omega)]; rfl⟩⟩))
  · exact ⟨0, by simp, by simp, by simp, by omega, rfl, rfl⟩
  · rintro ⟨ex, t⟩ g ⟨rfl, ⟨rfl, q⟩ | ⟨rfl, q, q'⟩⟩
    · simp [J_precentorref9_In_0]
      exact Tells.ok (hQ _ _ ⟨by rw [q], rfl⟩)
    · simp only at q
      simp [q]
      exact Tells.ok (hQ _ _ ⟨by rw [q'], rfl⟩)

theorem nxt_drop {s : Slots} {i : Nat} {q n : Int} (h : s[i]? = some (q, n)) (p : Int) : nxt (s.drop i) p = if q = p then n else nxt (s.drop (i + 1)) p := by
  have hlt := (List.getElem?_eq_some_iff.1 h).1
  rw [List.drop_eq_getElem_cons hlt, (List.getElem?_eq_some_iff.1 h).2]
  rfl

theorem ref_Next (hX : OnlyKnown X) {h : Heap} {pv nv : AVal} {s : Slots} (o : Two h pv nv s) (hl : s.length < 2 ^ 62) (p : Int) :
    Tells (fun q => acallX Try.prog X q F_precentorref9_Clock_Next [.agg [pv, nv], I p] h) fun a h' => a = I (nxt s p) ∧ Ext [] h h' := by
  refine R_precentorref9_Clock_Next _ _ (hX _ _ rfl) ?_
  refine Tells.prot fun Q' hQ => ?_
  unfold S_precentorref9_Clock_Next
  simp
  refine Tells.box rfl rfl fun h1 bc oc x1 l1 => ?_
  try simp
  refine Tells.bind (Tells.loop (fun n t g => ∃ i : Nat, t 1 = I p ∧ t 2 = .ptr bc 0 ∧ t 5 = I i ∧ i + n = s.length ∧ g = h1 ∧ nxt s p = nxt (s.drop i) p)
    (Q := fun r g => g = h1 ∧ ((r.1 = .exit 0 ∧ nxt s p = 0) ∨ (r.1 = .ret ∧ r.2 4 = I (nxt s p)))) ?_ s.length _ _ ?_) ?_
  · rintro n t g ⟨i, t1, t2, t5, hi, rfl, ha⟩
    refine Tells.prot fun Q2 hQ2 => ?_
    have op := o.1.ext x1
    have on := o.2.ext x1
    have hlen : (s.map (·.1)).length = s.length := by simp
    unfold L_precentorref9_Clock_Next_1
    simp [t5, t2, oc.1, op.len]
    refine Tells.cb (fun hc => ?_) (fun hc => ?_)
    · simp at hc
      obtain ⟨⟨q, m⟩, hdi⟩ : ∃ d, s[i]? = some d := ⟨_, List.getElem?_eq_getElem hc⟩
      obtain ⟨b, pp, B, q1, q2, q3⟩ := op.atI (show (s.map (·.1))[i]? = some q by simp [hdi])
      obtain ⟨b', pp', B', k1, k2, k3⟩ := on.atI (show (s.map (·.2))[i]? = some m by simp [hdi])
      have w : IntKind.i64.wrap ((i : Int) + 1) = i + 1 := wrap_id (by omega) (by omega)
      rw [nxt_drop hdi] at ha
      by_cases e : q = p
      · subst e
        simp at ha
        simp [J_precentorref9_Clock_Next_2, t2, oc.1, t5, t1, q1, q2, q3, k1, k2, k3]
        exact Tells.ok (hQ2 _ _ (.inr ⟨by simp, rfl, .inr ⟨rfl, by simp [ha]⟩⟩))
      · rw [if_neg e] at ha
        simp [J_precentorref9_Clock_Next_2, t2, oc.1, t5, t1, q1, q2, q3, e, beq_eq_false_iff_ne.2 e, J_precentorref9_Clock_Next_3, w]
        exact Tells.ok (hQ2 _ _ (.inl ⟨rfl, n - 1, by omega, i + 1, by simp [t1], by simp [t2], by simp, by omega, rfl, ha⟩))
    · simp at hc
      exact Tells.ok (hQ2 _ _ (.inr ⟨by simp, rfl, .inl ⟨rfl, by rw [ha, List.drop_eq_nil_of_le (by omega)]; rfl⟩⟩))
  · exact ⟨0, by simp, by simp, by simp, by omega, rfl, rfl⟩
  · rintro ⟨ex, t⟩ g ⟨rfl, ⟨rfl, q⟩ | ⟨rfl, q⟩⟩
    · simp [J_precentorref9_Clock_Next_0]
      exact Tells.ok (hQ _ _ ⟨by rw [q], x1⟩)
    · simp only at q
      simp [q]
      exact Tells.ok (hQ _ _ ⟨rfl, x1⟩)

theorem ref_Due (hX : OnlyKnown X) {h : Heap} {pv nv u : AVal} {s : Slots} {l : List (Int × Int)} (o : Two h pv nv s) (hl : s.length < 2 ^ 62) (ou : Sl pairR h u l) (hu : l.length < 2 ^ 62) :
    Tells (fun q => acallX Try.prog X q F_precentorref9_Clock_Due [.agg [pv, nv], u] h) fun a h' => a = .bool (due s l) ∧ Ext [] h h' := by
  refine R_precentorref9_Clock_Due _ _ (hX _ _ rfl) ?_
  refine Tells.prot fun Q' hQ => ?_
  have hds : due s l = (riseF none l && fits s l) := dueF_split s l none
  unfold S_precentorref9_Clock_Due
  simp
  refine Tells.box rfl rfl fun h1 bc oc x1 l1 => ?_
  try simp
  refine Tells.bind (Tells.loop (fun n t g => ∃ i : Nat, t 1 = u ∧ t 2 = .ptr bc 0 ∧ t 5 = I i ∧ i + n = l.length ∧ riseF none l = riseF (prevOf l i) (l.drop i) ∧ g = h1)
    (Q := fun pp g => g = h1 ∧ ((pp.1 = .exit 0 ∧ pp.2 1 = u ∧ pp.2 2 = .ptr bc 0 ∧ riseF none l = true) ∨ (pp.1 = .ret ∧ pp.2 4 = .bool false ∧ riseF none l = false))) ?_ l.length _ _ ?_) ?_
  · rintro n t g ⟨i, t1, t2, t5, hi, hd, rfl⟩
    refine Tells.prot fun Q2 hQ2 => ?_
    have ou := ou.ext x1
    unfold L_precentorref9_Clock_Due_5
    simp [t5, t1, ou.len]
    refine Tells.cb (fun hc => ?_) (fun hc => ?_)
    · simp at hc
      obtain ⟨⟨a, n'⟩, hdi⟩ : ∃ d, l[i]? = some d := ⟨_, List.getElem?_eq_getElem hc⟩
      rw [riseF_at hdi] at hd
      obtain ⟨b, pp, B, q1, q2, q3, q4, q5⟩ := pair_at ou hdi
      have w : IntKind.i64.wrap ((i : Int) + 1) = i + 1 := wrap_id (by omega) (by omega)
      cases i with
      | zero =>
        simp [J_precentorref9_Clock_Due_6, t5, J_precentorref9_Clock_Due_7]
        exact Tells.ok (hQ2 _ _ (.inl ⟨rfl, n - 1, by omega, 1, by simp [t1], by simp [t2], by simp; rfl, by omega, by rw [hd]; simp [prevOf, hdi], rfl⟩))
      | succ j =>
        obtain ⟨⟨a0, n0⟩, hdj⟩ : ∃ d, l[j]? = some d := ⟨_, List.getElem?_eq_getElem (by omega)⟩
        obtain ⟨b', p', B', k1, k2, k3, k4, k5⟩ := pair_at ou hdj
        have pos : (0 : Int) < (j : Int) + 1 := by omega
        have wj : IntKind.i64.wrap (j : Int) = j := wrap_id (by omega) (by omega)
        have ep : prevOf l (j + 1) = some a0 := by simp [prevOf, hdj]
        rw [ep] at hd
        have q1' : ixsR 2 u (I ((j : Int) + 1)) = some (.ptr b pp) := by simpa using q1
        have w' : IntKind.i64.wrap ((j : Int) + 1 + 1) = (j : Int) + 1 + 1 := wrap_id (by omega) (by omega)
        by_cases hlt : a0 < a
        · simp [J_precentorref9_Clock_Due_6, t5, t1, pos, wj, k1, k2, k4, q1', q2, q4, show ¬ a ≤ a0 by omega, J_precentorref9_Clock_Due_7, w']
          exact Tells.ok (hQ2 _ _ (.inl ⟨rfl, n - 1, by omega, j + 2, by simp [t1], by simp [t2], by simp; omega, by omega, by rw [hd]; simp [prevOf, hdi, hlt], rfl⟩))
        · simp [J_precentorref9_Clock_Due_6, t5, t1, pos, wj, k1, k2, k4, q1', q2, q4, show a ≤ a0 by omega]
          exact Tells.ok (hQ2 _ _ (.inr ⟨by simp, rfl, .inr ⟨rfl, by simp, by rw [hd]; simp [hlt]⟩⟩))
    · simp at hc
      exact Tells.ok (hQ2 _ _ (.inr ⟨by simp, rfl, .inl ⟨rfl, by simp [t1], by simp [t2], by rw [hd, List.drop_eq_nil_of_le (by omega)]; rfl⟩⟩))
  · exact ⟨0, by simp, by simp, by simp, by omega, rfl, rfl⟩
  · rintro ⟨ex, t⟩ g ⟨rfl, ⟨rfl, t1, t2, q⟩ | ⟨rfl, q, q'⟩⟩
    · simp only at t1 t2
      simp [J_precentorref9_Clock_Due_0]
      refine Tells.bind (Tells.loop (fun n t g => ∃ i : Nat, t 1 = u ∧ t 2 = .ptr bc 0 ∧ t 6 = I i ∧ i + n = l.length ∧ fits s l = fits s (l.drop i) ∧ Ext [] h g ∧ Ob g bc [pv, nv])
        (Q := fun pp g => Ext [] h g ∧ ((pp.1 = .exit 2 ∧ fits s l = true) ∨ (pp.1 = .ret ∧ pp.2 4 = .bool false ∧ fits s l = false))) ?_ l.length _ _ ?_) ?_
      · rintro n t g ⟨i, t1, t2, t6, hi, hd, x, og⟩
        refine Tells.prot fun Q2 hQ2 => ?_
        have ou := ou.ext x
        have op := o.1.ext x
        unfold L_precentorref9_Clock_Due_2
        simp [t6, t1, ou.len]
        refine Tells.cb (fun hc => ?_) (fun hc => ?_)
        · simp at hc
          obtain ⟨⟨a, n'⟩, hdi⟩ : ∃ d, l[i]? = some d := ⟨_, List.getElem?_eq_getElem hc⟩
          rw [fits_at hdi] at hd
          obtain ⟨b, pp, B, q1, q2, q3, q4, q5⟩ := pair_at ou hdi
          have w : IntKind.i64.wrap ((i : Int) + 1) = i + 1 := wrap_id (by omega) (by omega)
          simp [J_precentorref9_Clock_Due_3, t2, og.1, t1, t6, q1, q2, q4]
          refine Tells.cbE (ref_In hX op (by simpa using hl) a) ?_
          rintro _ _ ⟨rfl, rfl⟩
          have hin : ((s.map (·.1)).any (· == a)) = has s a := (has_places s a).symm
          rw [hin]
          cases hh : has s a with
          | false =>
            simp [J_precentorref9_Clock_Due_4, t6, w]
            exact Tells.ok (hQ2 _ _ (.inl ⟨rfl, n - 1, by omega, i + 1, by simp [t1], by simp [t2], by simp, by omega, by rw [hd, hh]; rfl, x, og⟩))
          | true =>
            simp [t2, og.1, t1, t6, q1, q2, q4]
            refine Tells.cbE (ref_Next hX (o.ext x) hl a) ?_
            rintro _ h3 ⟨rfl, x3⟩
            obtain ⟨b', pp', B', k1, k2, k3, k4, k5⟩ := pair_at (ou.ext x3) hdi
            have ek1 := q1.symm.trans k1
            cases ek1
            by_cases hn : nxt s a = n'
            · simp [t1, t6, q1, q2, q5, k1, k2, k5, hn, J_precentorref9_Clock_Due_4, w]
              exact Tells.ok (hQ2 _ _ (.inl ⟨rfl, n - 1, by omega, i + 1, by simp [t1], by simp [t2], by simp, by omega, by rw [hd, hh]; simp [hn], x.trans x3, og.e x3⟩))
            · have hn2 : (nxt s a != n') = true := by simp [hn]
              simp [t1, t6, q1, q2, q5, k1, k2, k5, hn2]
              exact Tells.ok (hQ2 _ _ (.inr ⟨by simp, x.trans x3, .inr ⟨rfl, by simp, by rw [hd, hh]; simp [hn]⟩⟩))
        · simp at hc
          exact Tells.ok (hQ2 _ _ (.inr ⟨by simp, x, .inl ⟨rfl, by rw [hd, List.drop_eq_nil_of_le (by omega)]; rfl⟩⟩))
      · exact ⟨0, by simp [t1], by simp [t2], by simp, by omega, rfl, x1, oc⟩
      · rintro ⟨ex, t⟩ g ⟨x, ⟨rfl, k⟩ | ⟨rfl, k, k'⟩⟩
        · simp [J_precentorref9_Clock_Due_1]
          exact Tells.ok (hQ _ _ ⟨by rw [hds, q, k]; rfl, x⟩)
        · simp only at k
          simp [k]
          exact Tells.ok (hQ _ _ ⟨by rw [hds, q, k']; rfl, x⟩)
    · simp only at q
      simp [q]
      exact Tells.ok (hQ _ _ ⟨by rw [hds, q']; rfl, x1⟩)

end
end Go.Proofs.Ytodccjbgomimjaa
