/-
  What the functions of clock tell.
-/
import Derived.Test.YtbpbdigehfkjjaaB2
import Derived.Test.YtbpbdigehfkjjaaSclock
set_option linter.unusedVariables false
set_option linter.unusedSimpArgs false
namespace Go.Proofs.Ytbpbdigehfkjjaa
open Go.Ab

/-- A place and its next number; a stamp's place and its number. -/
def pairR : Rp (Int × Int) := ⟨2, by decide, fun _ cs x => cs = [I x.1, I x.2], fun h => by rw [h]; rfl, fun h => by rw [h]; rfl, fun h _ => h⟩

abbrev Slots := List (Int × Int)
/-- The next number of a place. -/
def nxt : Slots → Int → Int
  | [], _ => 0
  | (q, n) :: r, p => if q = p then n else nxt r p
def has (s : Slots) (p : Int) : Bool := s.any fun x => x.1 == p
/-- The first slot of a place. -/
def idx : Slots → Int → Nat
  | [], _ => 0
  | (q, _) :: r, p => if q = p then 0 else idx r p + 1
def bump : Slots → Int → Slots
  | [], _ => []
  | (q, n) :: r, p => if q = p then (q, n + 1) :: r else (q, n) :: bump r p
def dueF (s : Slots) : Option Int → List (Int × Int) → Bool
  | _, [] => true
  | prev, (a, n) :: r => (match prev with | some b => decide (b < a) | none => true) && (!has s a || decide (nxt s a = n)) && dueF s (some a) r
def due (s : Slots) (l : List (Int × Int)) : Bool := dueF s none l
def bumps (s : Slots) (l : List (Int × Int)) : Slots := l.foldl (fun s x => bump s x.1) s
def take (s : Slots) (l : List (Int × Int)) : Slots := if due s l = true then bumps s l else s

theorem has_idx : ∀ {s : Slots} {p : Int}, has s p = true → idx s p < s.length ∧ s[idx s p]? = some (p, nxt s p)
  | [], _, h => by simp [has] at h
  | (q, n) :: r, p, h => by
    by_cases e : q = p
    · subst e; simp [idx, nxt]
    · have h' : has r p = true := by simpa [has, e] using h
      obtain ⟨h1, h2⟩ := has_idx h'
      exact ⟨by simp only [idx, if_neg e, List.length_cons]; omega, by simp only [idx, nxt, if_neg e]; exact h2⟩
theorem not_has_nxt : ∀ {s : Slots} {p : Int}, has s p = false → nxt s p = 0
  | [], _, _ => rfl
  | (q, n) :: r, p, h => by
    simp [has] at h
    have h' : has r p = false := by simp [has]; exact h.2
    simp [nxt, h.1, not_has_nxt h']
theorem bump_set : ∀ {s : Slots} {p : Int}, has s p = true → bump s p = s.set (idx s p) (p, nxt s p + 1)
  | [], _, h => by simp [has] at h
  | (q, n) :: r, p, h => by
    by_cases e : q = p
    · subst e; simp [bump, idx, nxt]
    · have h' : has r p = true := by simpa [has, e] using h
      simp [bump, idx, nxt, e, bump_set h']
theorem not_has_bump : ∀ {s : Slots} {p : Int}, has s p = false → bump s p = s
  | [], _, _ => rfl
  | (q, n) :: r, p, h => by
    simp [has] at h
    have h' : has r p = false := by simp [has]; exact h.2
    simp [bump, h.1, not_has_bump h']

/-- What find tells. -/
def fnd (s : Slots) (p : Int) : Int := if has s p = true then idx s p else -1

section
variable {X : XTab}

theorem pair_at {h : Heap} {v : AVal} {xs : List (Int × Int)} (o : Sl pairR h v xs) {i : Nat} {x : Int × Int} (hx : xs[i]? = some x) :
    ∃ b p B, ixsR 2 v (.int .i64 (i : Int)) = some (.ptr b p) ∧ h.get b = some B ∧ (if p + 2 ≤ B.length then some (AVal.agg ((B.drop p).take 2)) else none) = some (.agg [I x.1, I x.2]) ∧ B[p]? = some (I x.1) ∧ B[p + 1]? = some (I x.2) := by
  obtain ⟨b, p, B, c, q1, q2, q3⟩ := o.at (n := 2) rfl (i := (i : Int)) (by omega) (by simpa using hx)
  have q3 : c = [I x.1, I x.2] := q3
  subst q3
  have q4 := q2.lda (n := 2) rfl
  simp only [ldn_ptr, q2.get] at q4
  exact ⟨b, p, B, q1, q2.get, q4, q2.cell0 (by simp), q2.cell (k := 1) (by simp)⟩

theorem clock_find (hX : OnlyKnown X) {h : Heap} {v : AVal} {s : Slots} (o : Sl pairR h v s) (hl : s.length < 2 ^ 62) (p : Int) :
    Tells (fun q => acallX Try.prog X q F_clock_Clock_find [.agg [v], I p] h) fun a h' => a = I (fnd s p) ∧ Ext [] h h' := by
  refine R_clock_Clock_find _ _ (hX _ _ rfl) ?_
  refine Tells.prot fun Q' hQ => ?_
  unfold S_clock_Clock_find
  simp
  refine Tells.box rfl rfl fun h1 b1 o1 x1 l1 => ?_
  simp [o1.1, o.len]
  refine Tells.bind (Tells.loop (fun n t g => ∃ i : Nat, t 1 = I p ∧ t 8 = v ∧ t 9 = I s.length ∧ t 10 = I i ∧ i + n = s.length ∧ fnd s p = (if has (s.drop i) p = true then ((i + idx (s.drop i) p : Nat) : Int) else -1) ∧ Ext [] h g)
    (Q := fun pp g => Ext [] h g ∧ ((pp.1 = .exit 0 ∧ fnd s p = -1) ∨ (pp.1 = .ret ∧ pp.2 4 = I (fnd s p)))) ?_ s.length _ _ ?_) ?_
  · rintro n t g ⟨i, t1, t8, t9, t10, hi, hf, x⟩
    refine Tells.prot fun Q2 hQ2 => ?_
    unfold L_clock_Clock_find_1
    simp [t9, t10]
    refine Tells.cb (fun hc => ?_) (fun hc => ?_)
    · simp at hc
      obtain ⟨⟨a, n'⟩, hdi⟩ : ∃ d, s[i]? = some d := ⟨_, List.getElem?_eq_getElem hc⟩
      have hd : s.drop i = (a, n') :: s.drop (i + 1) := by
        rw [List.drop_eq_getElem_cons hc]; congr 1; exact (List.getElem?_eq_some_iff.1 hdi).2
      obtain ⟨b, pp, B, q1, q2, q3, q4, q5⟩ := pair_at (o.ext x) hdi
      have w : IntKind.i64.wrap ((i : Int) + 1) = i + 1 := wrap_id (by omega) (by omega)
      simp [J_clock_Clock_find_2, t8, t10, q1, q2, q3]
      refine Tells.newSt (by rfl) (by rfl) (by rfl) (by rfl) fun h2 b2 o2 x2 l2 => ?_
      simp [o2.1, t1]
      by_cases e : a = p
      · subst e
        simp
        refine Tells.ok (hQ2 _ _ (.inr ⟨by simp, x.trans x2, .inr ⟨rfl, ?_⟩⟩))
        rw [hf, hd]
        simp [has, idx]
      · simp [beq_eq_false_iff_ne.2 e, J_clock_Clock_find_3, t10, w]
        refine Tells.ok (hQ2 _ _ (.inl ⟨rfl, n - 1, by omega, i + 1, by simp [t1], by simp [t8], by simp [t9], by simp, by omega, ?_, x.trans x2⟩))
        rw [hf, hd]
        have e2 : has ((a, n') :: s.drop (i + 1)) p = has (s.drop (i + 1)) p := by simp [has, e]
        rw [e2]
        simp only [idx, if_neg e]
        split <;> omega
    · simp at hc
      refine Tells.ok (hQ2 _ _ (.inr ⟨by simp, x, .inl ⟨rfl, ?_⟩⟩))
      rw [hf, List.drop_eq_nil_of_le (by omega)]
      rfl
  · exact ⟨0, by simp, by simp, by simp, by simp, by omega, by simp [fnd], x1⟩
  · rintro ⟨ex, t⟩ g ⟨x, ⟨rfl, q⟩ | ⟨rfl, q⟩⟩
    · simp [J_clock_Clock_find_0]
      exact Tells.ok (hQ _ _ ⟨by rw [q], x⟩)
    · simp only at q
      simp [q]
      exact Tells.ok (hQ _ _ ⟨rfl, x⟩)

theorem clock_Next (hX : OnlyKnown X) {h : Heap} {v : AVal} {s : Slots} (o : Sl pairR h v s) (hl : s.length < 2 ^ 62) (p : Int) :
    Tells (fun q => acallX Try.prog X q F_clock_Clock_Next [.agg [v], I p] h) fun a h' => a = I (nxt s p) ∧ Ext [] h h' := by
  refine R_clock_Clock_Next _ _ (hX _ _ rfl) ?_
  refine Tells.prot fun Q' hQ => ?_
  unfold S_clock_Clock_Next
  simp
  refine Tells.box rfl rfl fun h1 b1 o1 x1 l1 => ?_
  simp [o1.1]
  refine Tells.bind (clock_find hX (o.ext x1) hl p) ?_
  rintro _ h2 ⟨rfl, x2⟩
  have o2 := o1.e x2
  by_cases hh : has s p = true
  · obtain ⟨i1, i2⟩ := has_idx hh
    obtain ⟨b, pp, B, q1, q2, q3, q4, q5⟩ := pair_at ((o.ext x1).ext x2) i2
    have hf : fnd s p = idx s p := by simp [fnd, hh]
    simp [hf, o2.1, q1, q2, q5]
    exact Tells.ok (hQ _ _ ⟨rfl, x1.trans x2⟩)
  · have hh : has s p = false := by simpa using hh
    have hf : fnd s p = -1 := by simp [fnd, hh]
    simp [hf, J_clock_Clock_Next_0]
    exact Tells.ok (hQ _ _ ⟨by rw [not_has_nxt hh], x1.trans x2⟩)

theorem dueF_at {s : Slots} {l : List (Int × Int)} {i : Nat} {a n : Int} (h : l[i]? = some (a, n)) (prev : Option Int) : dueF s prev (l.drop i) = ((match prev with | some b => decide (b < a) | none => true) && (!has s a || decide (nxt s a = n)) && dueF s (some a) (l.drop (i + 1))) := by
  have hlt := (List.getElem?_eq_some_iff.1 h).1
  rw [List.drop_eq_getElem_cons hlt, (List.getElem?_eq_some_iff.1 h).2]
  rfl
/-- The place that came last. -/
def prevOf (l : List (Int × Int)) : Nat → Option Int
  | 0 => none
  | i + 1 => (l[i]?).map (·.1)

theorem clock_Due (hX : OnlyKnown X) {h : Heap} {v u : AVal} {s : Slots} {l : List (Int × Int)} (o : Sl pairR h v s) (hl : s.length < 2 ^ 62) (ou : Sl pairR h u l) (hu : l.length < 2 ^ 62) :
    Tells (fun q => acallX Try.prog X q F_clock_Clock_Due [.agg [v], u] h) fun a h' => a = .bool (due s l) ∧ Ext [] h h' := by
  refine R_clock_Clock_Due _ _ (hX _ _ rfl) ?_
  refine Tells.prot fun Q' hQ => ?_
  unfold S_clock_Clock_Due
  simp
  refine Tells.box rfl rfl fun h1 bc oc x1 l1 => ?_
  simp [ou.len]
  refine Tells.bind (Tells.loop (fun n t g => ∃ i : Nat, t 1 = u ∧ t 2 = .ptr bc 0 ∧ t 8 = u ∧ t 9 = I l.length ∧ t 10 = I i ∧ i + n = l.length ∧ due s l = dueF s (prevOf l i) (l.drop i) ∧ Ext [] h g ∧ Ob g bc [v])
    (Q := fun pp g => Ext [] h g ∧ ((pp.1 = .exit 0 ∧ due s l = true) ∨ (pp.1 = .ret ∧ pp.2 4 = .bool false ∧ due s l = false))) ?_ l.length _ _ ?_) ?_
  · rintro n t g ⟨i, t1, t2, t8, t9, t10, hi, hd, x, og⟩
    refine Tells.prot fun Q2 hQ2 => ?_
    unfold L_clock_Clock_Due_1
    simp [t9, t10]
    refine Tells.cb (fun hc => ?_) (fun hc => ?_)
    · simp at hc
      obtain ⟨⟨a, n'⟩, hdi⟩ : ∃ d, l[i]? = some d := ⟨_, List.getElem?_eq_getElem hc⟩
      rw [dueF_at hdi] at hd
      obtain ⟨b, pp, B, q1, q2, q3, q4, q5⟩ := pair_at (ou.ext x) hdi
      have w : IntKind.i64.wrap ((i : Int) + 1) = i + 1 := wrap_id (by omega) (by omega)
      simp [J_clock_Clock_Due_2, t8, t10, q1, q2, q3]
      refine Tells.newSt (by rfl) (by rfl) (by rfl) (by rfl) fun h2 b2 o2 x2 l2 => ?_
      have og2 := og.e x2
      have x02 := x.trans x2
      -- what comes behind the order
      have rest : ∀ t' : T, t' 1 = u → t' 2 = .ptr bc 0 → t' 6 = .ptr b2 0 → t' 8 = u → t' 9 = I l.length → t' 10 = I i → (match prevOf l i with | some b => decide (b < a) | none => true) = true →
          Tells (fun m => J_clock_Clock_Due_4 Try.prog (acallX Try.prog X m) m (blkK 1 (sqK (J_clock_Clock_Due_3 Try.prog (acallX Try.prog X m) m okK) okK)) t' h2) Q2 := by
        intro t' e1 e2 e6 e8 e9 e10 ep
        rw [ep] at hd
        unfold J_clock_Clock_Due_4
        simp [e2, e6, og2.1, o2.1]
        refine Tells.bind (clock_find hX (o.ext x02) hl a) ?_
        rintro _ h3 ⟨rfl, x3⟩
        have og3 := og2.e x3
        have o3 := o2.e x3
        have x03 := x02.trans x3
        by_cases hh : has s a = true
        · obtain ⟨i1, i2⟩ := has_idx hh
          obtain ⟨b', p', B', k1, k2, k3, k4, k5⟩ := pair_at (o.ext x03) i2
          have hf : fnd s a = idx s a := by simp [fnd, hh]
          simp [hf, og3.1, k1, k2, k5, o3.1]
          by_cases hn : nxt s a = n'
          · simp [hn, J_clock_Clock_Due_3, e10, w]
            refine Tells.ok (hQ2 _ _ (.inl ⟨rfl, n - 1, by omega, i + 1, by simp [e1], by simp [e2], by simp [e8], by simp [e9], by simp, by omega, ?_, x03, og3⟩))
            rw [hd]
            simp [hn, prevOf, hdi]
          · have : (nxt s a != n') = true := by simp [hn]
            simp [this]
            exact Tells.ok (hQ2 _ _ (.inr ⟨by simp, x03, .inr ⟨rfl, by simp, by rw [hd]; simp [hh, hn]⟩⟩))
        · have hh : has s a = false := by simpa using hh
          have hf : fnd s a = -1 := by simp [fnd, hh]
          simp [hf, J_clock_Clock_Due_3, e10, w]
          refine Tells.ok (hQ2 _ _ (.inl ⟨rfl, n - 1, by omega, i + 1, by simp [e1], by simp [e2], by simp [e8], by simp [e9], by simp, by omega, ?_, x03, og3⟩))
          rw [hd]
          simp [hh, prevOf, hdi]
      cases i with
      | zero =>
        simp
        exact rest _ (by simp [t1]) (by simp [t2]) (by simp) (by simp [t8]) (by simp [t9]) (by simpa using t10) rfl
      | succ j =>
        obtain ⟨⟨a0, n0⟩, hdj⟩ : ∃ d, l[j]? = some d := ⟨_, List.getElem?_eq_getElem (by omega)⟩
        obtain ⟨b', p', B', k1, k2, k3, k4, k5⟩ := pair_at (ou.ext x02) hdj
        have pos : (0 : Int) < (j : Int) + 1 := by omega
        have wj : IntKind.i64.wrap (j : Int) = j := wrap_id (by omega) (by omega)
        have ep : prevOf l (j + 1) = some a0 := by simp [prevOf, hdj]
        simp [pos, wj, t1, k1, k2, k4, o2.1]
        by_cases hlt : a0 < a
        · have : ¬ a ≤ a0 := by omega
          simp [this]
          exact rest _ (by simp [t1]) (by simp [t2]) (by simp) (by simp [t8]) (by simp [t9]) (by simpa using t10) (by rw [ep]; simp [hlt])
        · have : a ≤ a0 := by omega
          simp [this]
          exact Tells.ok (hQ2 _ _ (.inr ⟨by simp, x02, .inr ⟨rfl, by simp, by rw [hd, ep]; simp [hlt]⟩⟩))
    · simp at hc
      refine Tells.ok (hQ2 _ _ (.inr ⟨by simp, x, .inl ⟨rfl, ?_⟩⟩))
      rw [hd, List.drop_eq_nil_of_le (by omega)]
      rfl
  · exact ⟨0, by simp, by simp, by simp, by simp, by simp, by omega, by simp [due, prevOf], x1, oc⟩
  · rintro ⟨ex, t⟩ g ⟨x, ⟨rfl, q⟩ | ⟨rfl, q, q'⟩⟩
    · simp [J_clock_Clock_Due_0]
      exact Tells.ok (hQ _ _ ⟨by rw [q], x⟩)
    · simp only at q
      simp [q]
      exact Tells.ok (hQ _ _ ⟨by rw [q'], x⟩)

theorem bumps_take_succ {s : Slots} {l : List (Int × Int)} {i : Nat} {a n : Int} (h : l[i]? = some (a, n)) : bumps s (l.take (i + 1)) = bump (bumps s (l.take i)) a := by
  unfold bumps
  rw [List.take_add_one, h]
  simp

/-- Places, as they are. -/
theorem bump_places : ∀ (s : Slots) (p : Int), (bump s p).map (·.1) = s.map (·.1)
  | [], _ => rfl
  | (q, n) :: r, p => by
    by_cases e : q = p
    · simp [bump, e]
    · simp [bump, e, bump_places r p]
theorem has_places (s : Slots) (p : Int) : has s p = (s.map (·.1)).any (· == p) := by
  unfold has; rw [List.any_map]; rfl
theorem idx_places : ∀ {s r : Slots} {p : Int}, s.map (·.1) = r.map (·.1) → idx s p = idx r p
  | [], [], _, _ => rfl
  | (q, n) :: s, (q', n') :: r, p, h => by
    simp at h
    obtain ⟨rfl, h⟩ := h
    simp only [idx]
    rw [idx_places (by simpa using h)]
  | [], _ :: _, _, h => by simp at h
  | _ :: _, [], _, h => by simp at h
theorem bumps_places (s : Slots) : ∀ (l : List (Int × Int)), (bumps s l).map (·.1) = s.map (·.1) := by
  intro l
  unfold bumps
  induction l generalizing s with
  | nil => rfl
  | cons x r ih => rw [List.foldl_cons, ih, bump_places]
theorem bumps_length (s : Slots) (l : List (Int × Int)) : (bumps s l).length = s.length := by
  have := congrArg List.length (bumps_places s l)
  simpa using this
theorem take_places (s : Slots) (l : List (Int × Int)) : (take s l).map (·.1) = s.map (·.1) := by
  unfold take
  split
  · exact bumps_places s l
  · rfl
theorem take_length (s : Slots) (l : List (Int × Int)) : (take s l).length = s.length := by
  have := congrArg List.length (take_places s l)
  simpa using this
/-- Next numbers up to k. -/
def Small (s : Slots) (k : Int) : Prop := ∀ x, x ∈ s → -k ≤ x.2 ∧ x.2 ≤ k
theorem Small.bump {s : Slots} {k : Int} (h : Small s k) (hk : 0 ≤ k) (p : Int) : Small (bump s p) (k + 1) := by
  induction s with
  | nil => intro x hx; simp [Go.Proofs.Ytbpbdigehfkjjaa.bump] at hx
  | cons y r ih =>
    obtain ⟨q, n⟩ := y
    have h1 := h (q, n) (by simp)
    have h2 : Small r k := fun x hx => h x (by simp [hx])
    intro x hx
    by_cases e : q = p
    · simp only [Go.Proofs.Ytbpbdigehfkjjaa.bump, if_pos e] at hx
      rcases List.mem_cons.1 hx with rfl | hx
      · simp at h1 ⊢; omega
      · have := h2 x hx; omega
    · simp only [Go.Proofs.Ytbpbdigehfkjjaa.bump, if_neg e] at hx
      rcases List.mem_cons.1 hx with rfl | hx
      · simp at h1 ⊢; omega
      · exact ih h2 x hx
theorem Small.bumps {s : Slots} {k : Int} (hk : 0 ≤ k) (h : Small s k) : ∀ l : List (Int × Int), Small (bumps s l) (k + l.length) := by
  intro l
  unfold Go.Proofs.Ytbpbdigehfkjjaa.bumps
  induction l generalizing s k with
  | nil => simpa using h
  | cons x r ih =>
    rw [List.foldl_cons]
    have := ih (by omega) (h.bump hk x.1)
    intro y hy
    have := this y hy
    simp at this ⊢; omega
theorem Small.nxt {s : Slots} {k : Int} (h : Small s k) (hk : 0 ≤ k) (p : Int) : -k ≤ nxt s p ∧ nxt s p ≤ k := by
  cases hh : has s p with
  | false => rw [not_has_nxt hh]; omega
  | true =>
    obtain ⟨_, i2⟩ := has_idx hh
    exact h _ (List.mem_of_getElem? i2)

end
end Go.Proofs.Ytbpbdigehfkjjaa
