/-
  What precentorhand's Stamps tells; more of a clock's slots.
-/
import Derived.Test.YtbpbdigehfkjjaaClock1
import Derived.Test.YtbpbdigehfkjjaaHand0
set_option linter.unusedVariables false
set_option linter.unusedSimpArgs false
namespace Go.Proofs.Ytbpbdigehfkjjaa
open Go.Ab

theorem Feed.out {h : Heap} {bf k : Nat} {α : Type} {r : Rp α} {v : AVal} {xs : List α} (f : Feed h bf k) (o : Sl r h v xs) : bf ∉ v.blks := fun hb => by
  have := (o.blk bf hb).1
  rw [f.m] at this; cases this

theorem dueF_snoc {s : Slots} {a n : Int} : ∀ {l : List (Int × Int)} {p : Option Int}, (∀ x, x ∈ l → x.1 < a) → (∀ b, p = some b → b < a) → dueF s p (l ++ [(a, n)]) = (dueF s p l && (!has s a || decide (nxt s a = n)))
  | [], p, _, hp => by
    cases p with
    | none => simp [dueF]
    | some b => simp [dueF, hp b rfl]
  | (b, m) :: l, p, hl, hp => by
    have := dueF_snoc (s := s) (a := a) (n := n) (l := l) (p := some b) (fun x hx => hl x (by simp [hx])) (fun c hc => by cases hc; exact hl (b, m) (by simp))
    simp only [List.cons_append, dueF, this, Bool.and_assoc]
theorem due_snoc {s : Slots} {l : List (Int × Int)} {a n : Int} (hl : ∀ x, x ∈ l → x.1 < a) : due s (l ++ [(a, n)]) = (due s l && (!has s a || decide (nxt s a = n))) := dueF_snoc hl (fun _ h => by cases h)

section
variable {X : XTab}
theorem Stamps (hX : OnlyKnown X) {h : Heap} {bf k : Nat} (f : Feed h bf k) (hk : k + 9 < 2 ^ 62) :
    Tells (fun q => acallX Try.prog X q F_precentorhand_Feed_Stamps [.ptr bf 0] h) fun a h' => ∃ xs, Gl pairR h h' a xs ∧ Wr h h' a ∧ xs.length ≤ 4 ∧ due [] xs = true ∧ Small xs 10 ∧ Ext [bf] h h' ∧ Feed h' bf (k + 9) := by
  refine R_precentorhand_Feed_Stamps _ (hX _ _ rfl) ?_
  refine Tells.prot fun Q' hQ => ?_
  unfold S_precentorhand_Feed_Stamps
  simp
  refine Tells.bind (Next hX 5 ⟨by omega, by omega⟩ f (by omega)) ?_
  rintro _ h1 ⟨c, rfl, c0, c1, _, x1, f1⟩
  have c1 := c1 (by omega)
  try simp
  refine Tells.bind (Tells.loop (fun n t g => ∃ (i : Nat) (xs : List (Int × Int)) (a : Int), t 0 = .ptr bf 0 ∧ t 5 = I n ∧ t 4 = I a ∧ 0 ≤ a ∧ a ≤ 4 * i ∧ i + n ≤ 4 ∧ xs.length = i ∧ Gl pairR h g (t 3) xs ∧ Wr h g (t 3) ∧ due [] xs = true ∧ (∀ x, x ∈ xs → x.1 < a) ∧ Small xs 10 ∧ Ext [bf] h g ∧ Feed g bf (k + 1 + 2 * i))
    (Q := fun p g => p.1 = .exit 0 ∧ ∃ xs, Gl pairR h g (p.2 3) xs ∧ Wr h g (p.2 3) ∧ xs.length ≤ 4 ∧ due [] xs = true ∧ Small xs 10 ∧ Ext [bf] h g ∧ Feed g bf (k + 9)) ?_ c.toNat _ _ ?_) ?_
  · rintro n t g ⟨i, xs, a, t0, t5, t4, a0, a1, hi, hl, go, wr, hd, hx, sm, x, fg⟩
    refine Tells.prot fun Q2 hQ2 => ?_
    unfold L_precentorhand_Feed_Stamps_1
    simp [t5]
    refine Tells.cb (fun hc => ?_) (fun hc => ?_)
    · simp at hc
      simp [J_precentorhand_Feed_Stamps_2, t0, t4]
      refine Tells.bind (Next hX 4 ⟨by omega, by omega⟩ fg (by omega)) ?_
      rintro _ h2 ⟨u, rfl, u0, u1, _, x2, f2⟩
      have u1 := u1 (by omega)
      have w1 : IntKind.i64.wrap (a + u) = a + u := wrap_id (by omega) (by omega)
      simp [w1, t0]
      refine Tells.bind (Next hX 5 ⟨by omega, by omega⟩ f2 (by omega)) ?_
      rintro _ h3 ⟨r, rfl, r0, r1, _, x3, f3⟩
      have r1 := r1 (by omega)
      have w2 : IntKind.i64.wrap (1 + r) = 1 + r := wrap_id (by omega) (by omega)
      have w3 : IntKind.i64.wrap (a + u + 1) = a + u + 1 := wrap_id (by omega) (by omega)
      have w4 : IntKind.i64.wrap ((n : Int) - 1) = ((n - 1 : Nat) : Int) := by rw [wrap_id (by omega) (by omega)]; omega
      simp [w2, bldR, fillR, splice]
      have g3 : Gl pairR h h3 (t 3) xs := go.extO (x2.trans x3) (by simp [fg.m])
      have wr3 : Wr h h3 (t 3) := wr.ext (x2.trans x3)
      refine Tells.app1W g3 wr3 (by rfl) (by rfl) (show pairR.rep h3 [I (a + u), I (1 + r)] (a + u, 1 + r) from rfl) (by rfl) (by rfl) (by omega) (by decide) (Nat.le_trans x.next (Nat.le_trans x2.next x3.next)) fun s4 h4 g4 wr4 x4 y4 z4 => ?_
      have hxm : ∀ y, y ∈ xs → y.1 < a + u := fun y hy => by have := hx y hy; omega
      simp [w3, J_precentorhand_Feed_Stamps_3, t5, w4]
      refine Tells.ok (hQ2 _ _ (.inl ⟨rfl, n - 1, by omega, i + 1, xs ++ [(a + u, 1 + r)], a + u + 1, by simp [t0], by simp, by simp, by omega, by omega, by omega, by simp [hl], by simpa using g4, by simpa using wr4, ?_, ?_, ?_, y4 _ ((x.trans x2).trans x3), ?_⟩))
      · rw [due_snoc hxm, hd]; simp [has]
      · intro y hy
        rcases List.mem_append.1 hy with hy | hy
        · have := hxm y hy; omega
        · simp at hy; subst hy; simp; omega
      · intro y hy
        rcases List.mem_append.1 hy with hy | hy
        · exact sm y hy
        · simp at hy; subst hy; simp; omega
      · exact (f3.ext x4 (fg.out go.1)).mono (by omega)
    · simp at hc
      exact Tells.ok (hQ2 _ _ (.inr ⟨by simp, rfl, xs, by simpa using go, by simpa using wr, by omega, hd, sm, x, fg.mono (by omega)⟩))
  · exact ⟨0, [], 0, by simp, by simp; omega, by simp, by omega, by omega, by omega, rfl, by simpa using Gl.nil, fun b hb => by simp [AVal.blks] at hb, rfl, by simp, fun _ h => by simp at h, x1, f1.mono (by omega)⟩
  · rintro ⟨ex, t⟩ g ⟨rfl, xs, go, wr, hl, hd, sm, x, fg⟩
    simp [J_precentorhand_Feed_Stamps_0]
    exact Tells.ok (hQ _ _ ⟨xs, go, wr, hl, hd, sm, x, fg⟩)
end

theorem nxt_bump : ∀ {s : Slots} {p q : Int}, has s q = true → nxt (bump s p) q = nxt s q + if p = q then 1 else 0
  | [], _, _, h => by simp [has] at h
  | (a, n) :: r, p, q, h => by
    by_cases e : a = p
    · subst e
      by_cases e2 : a = q
      · simp [bump, nxt, e2]
      · simp [bump, nxt, e2]
    · by_cases e2 : a = q
      · subst e2
        have e3 : ¬ p = a := fun h => e h.symm
        simp [bump, nxt, e, e3]
      · have h' : has r q = true := by simpa [has, e2] using h
        have := nxt_bump (s := r) (p := p) h'
        simp [bump, nxt, e, e2, this]
theorem has_bump (s : Slots) (p q : Int) : has (bump s p) q = has s q := by rw [has_places, has_places, bump_places]
theorem has_bumps (s : Slots) (l : List (Int × Int)) (q : Int) : has (bumps s l) q = has s q := by rw [has_places, has_places, bumps_places]
theorem has_take (s : Slots) (l : List (Int × Int)) (q : Int) : has (take s l) q = has s q := by rw [has_places, has_places, take_places]
/-- How many have a place. -/
def many (l : List (Int × Int)) (q : Int) : Int := (l.countP fun x => x.1 == q : Nat)
theorem nxt_bumps : ∀ {l : List (Int × Int)} {s : Slots} {q : Int}, has s q = true → nxt (bumps s l) q = nxt s q + many l q
  | [], s, q, h => by simp [bumps, many]
  | x :: l, s, q, h => by
    have := nxt_bumps (l := l) (s := bump s x.1) (q := q) (by rw [has_bump]; exact h)
    simp only [bumps, List.foldl_cons] at this ⊢
    rw [this, nxt_bump h]
    simp only [many, List.countP_cons]
    by_cases e : x.1 = q
    · simp [e]; omega
    · simp [e]
theorem Small.take {s : Slots} {k : Int} (hk : 0 ≤ k) (h : Small s k) (l : List (Int × Int)) : Small (take s l) (k + l.length) := by
  unfold Go.Proofs.Ytbpbdigehfkjjaa.take
  split
  · exact h.bumps hk l
  · intro x hx; have := h x hx; omega
end Go.Proofs.Ytbpbdigehfkjjaa
