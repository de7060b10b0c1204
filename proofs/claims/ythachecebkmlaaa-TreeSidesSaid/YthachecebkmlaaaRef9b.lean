/-
  What precentorref9's Near, Kids, Side, Place tell: the same as tree's.
-/
import Derived.Test.YthachecebkmlaaaRef9a
import Derived.Test.YthachecebkmlaaaPath3
import Derived.Test.YthachecebkmlaaaLaw9p
set_option linter.unusedVariables false
set_option linter.unusedSimpArgs false
namespace Go.Proofs.Ythachecebkmlaaa
open Go.Ab

/-! ### rising lists -/

theorem sorted_ext : ∀ (l m : List Int), l.Pairwise (· < ·) → m.Pairwise (· < ·) → (∀ x, x ∈ l ↔ x ∈ m) → l = m
  | [], [], _, _, _ => rfl
  | [], y :: m, _, _, h => by have := (h y).2 (by simp); simp at this
  | x :: l, [], _, _, h => by have := (h x).1 (by simp); simp at this
  | x :: l, y :: m, hl, hm, h => by
    rw [List.pairwise_cons] at hl hm
    have e : x = y := by
      have h1 := (h x).1 (by simp)
      have h2 := (h y).2 (by simp)
      simp at h1 h2
      rcases h1 with h1 | h1
      · exact h1
      · rcases h2 with h2 | h2
        · exact h2.symm
        · have := hl.1 y h2; have := hm.1 x h1; omega
    subst e
    congr 1
    refine sorted_ext l m hl.2 hm.2 fun z => ⟨fun hz => ?_, fun hz => ?_⟩
    · have := (h z).1 (by simp [hz])
      simp at this
      rcases this with q | q
      · subst q; have := hl.1 z hz; omega
      · exact q
    · have := (h z).2 (by simp [hz])
      simp at this
      rcases this with q | q
      · subst q; have := hm.1 z hz; omega
      · exact q

theorem mem_fromN {p : Int → Bool} {z : Int} : ∀ {k : Nat} {x : Int}, z ∈ fromN p k x ↔ x ≤ z ∧ z < x + k ∧ p z = true
  | 0, x => by simp [fromN]; omega
  | k + 1, x => by
    simp only [fromN]
    by_cases h : p x = true
    · rw [if_pos h, List.mem_cons, mem_fromN]
      constructor
      · rintro (rfl | q)
        · exact ⟨by omega, by omega, h⟩
        · exact ⟨by omega, by omega, q.2.2⟩
      · rintro ⟨q1, q2, q3⟩
        by_cases e : z = x
        · exact .inl e
        · exact .inr ⟨by omega, by omega, q3⟩
    · rw [if_neg h, mem_fromN]
      constructor
      · rintro ⟨q1, q2, q3⟩; exact ⟨by omega, by omega, q3⟩
      · rintro ⟨q1, q2, q3⟩
        have : z ≠ x := fun e => h (by rw [← e]; exact q3)
        exact ⟨by omega, by omega, q3⟩
theorem fromN_sorted {p : Int → Bool} : ∀ {k : Nat} {x : Int}, (fromN p k x).Pairwise (· < ·)
  | 0, x => by simp [fromN]
  | k + 1, x => by
    simp only [fromN]
    split
    · exact List.pairwise_cons.2 ⟨fun z hz => by have := (mem_fromN.1 hz).1; omega, fromN_sorted⟩
    · exact fromN_sorted
theorem mem_kidsN {b z : Int} : ∀ {l : List Int} {i : Nat}, z ∈ kidsN b i l ↔ ∃ j : Nat, l[j]? = some b ∧ z = i + j + 1
  | [], i => by simp [kidsN]
  | x :: r, i => by
    simp only [kidsN]
    have ih := mem_kidsN (b := b) (z := z) (l := r) (i := i + 1)
    have tail : (z ∈ kidsN b (i + 1) r) ↔ ∃ j : Nat, (x :: r)[j + 1]? = some b ∧ z = i + (j + 1 : Nat) + 1 := by
      rw [ih]
      constructor
      · rintro ⟨j, h1, h2⟩; exact ⟨j, by simpa using h1, by omega⟩
      · rintro ⟨j, h1, h2⟩; exact ⟨j, by simpa using h1, by omega⟩
    by_cases h : x = b
    · rw [if_pos h, List.mem_cons, tail]
      constructor
      · rintro (q | ⟨j, h1, h2⟩)
        · exact ⟨0, by simp [h], by omega⟩
        · exact ⟨j + 1, h1, h2⟩
      · rintro ⟨j, h1, h2⟩
        cases j with
        | zero => exact .inl (by omega)
        | succ j => exact .inr ⟨j, h1, h2⟩
    · rw [if_neg h, tail]
      constructor
      · rintro ⟨j, h1, h2⟩; exact ⟨j + 1, h1, h2⟩
      · rintro ⟨j, h1, h2⟩
        cases j with
        | zero => simp at h1; exact absurd h1 h
        | succ j => exact ⟨j, h1, h2⟩
theorem kidsN_sorted {b : Int} : ∀ {l : List Int} {i : Nat}, (kidsN b i l).Pairwise (· < ·)
  | [], i => by simp [kidsN]
  | x :: r, i => by
    simp only [kidsN]
    split
    · exact List.pairwise_cons.2 ⟨fun z hz => by obtain ⟨j, _, e⟩ := mem_kidsN.1 hz; omega, kidsN_sorted⟩
    · exact kidsN_sorted

theorem isT_of {ys : List Int} {b c : Int} (h : isT ys b = true) (h0 : 0 ≤ c) (hl : c ≤ ys.length) : isT ys c = true := by
  unfold isT at h ⊢
  simp only [Bool.and_eq_true, decide_eq_true_eq] at h ⊢
  exact ⟨⟨h.1.1, h0⟩, hl⟩
theorem par_at {ys : List Int} {z b : Int} (h0 : 0 < z) (hl : z ≤ ys.length) : b = parF ys z ↔ ys[(z - 1).toNat]? = some b := by
  have hlt : (z - 1).toNat < ys.length := by omega
  unfold parF
  rw [List.getElem?_eq_getElem hlt, Option.getD_some]
  simp [eq_comm]

theorem dist_one {ys : List Int} {a v : Int} (ha : isT ys a = true) (hv : isT ys v = true) : distF ys a v = 1 ↔ (0 < a ∧ v = parF ys a) ∨ (0 < v ∧ a = parF ys v) := by
  obtain ⟨ok, h7, a0, al⟩ := isT_ok ha
  obtain ⟨_, _, v0, vl⟩ := isT_ok hv
  rw [← path_two ok h7 a0 al v0 vl]
  unfold distF
  rw [if_pos ⟨ha, hv⟩]
  obtain ⟨t, ht⟩ := path_cons ok h7 a0 al v0 vl
  constructor
  · intro h
    by_cases e : a = v
    · subst e; rw [path_self ok h7 a0 al] at h; simp at h
    · obtain ⟨u, t, hp⟩ := path_ne ok h7 a0 al v0 vl e
      rw [hp] at h
      simp at h
      have : t = [] := List.eq_nil_of_length_eq_zero (by omega)
      subst this
      have := path_right ok h7 a0 al v0 vl (l1 := [a]) (v := u) (l2 := []) (by rw [hp]; rfl)
      have hu := path_mem ok h7 a0 al v0 vl (v := u) (by rw [hp]; simp)
      rw [hp, path_one ok h7 hu.1 hu.2 v0 vl this]
  · intro h; rw [h]; simp

/-- Who is near, the one way and the other. -/
theorem near_from {ys : List Int} {b : Int} (hb : isT ys b = true) : fromN (fun x => decide (distF ys b x = 1)) (ys.length + 1) 0 = nearF ys b := by
  obtain ⟨ok, h7, b0, bl⟩ := isT_ok hb
  unfold nearF
  rw [if_pos hb]
  refine sorted_ext _ _ fromN_sorted ?_ fun z => ?_
  · rw [List.pairwise_append]
    refine ⟨by split <;> simp, kidsN_sorted, fun x hx y hy => ?_⟩
    obtain ⟨j, h1, rfl⟩ := mem_kidsN.1 hy
    split at hx
    · rename_i h
      simp at hx
      subst hx
      have := par_lt ok h bl
      have := ok j b h1
      omega
    · simp at hx
  · rw [mem_fromN, List.mem_append, mem_kidsN]
    have hp : z ∈ (if 0 < b then [parF ys b] else []) ↔ 0 < b ∧ z = parF ys b := by
      split
      · rename_i h; simp [h]
      · rename_i h; simp [h]
    rw [hp]
    constructor
    · rintro ⟨q1, q2, q3⟩
      simp at q3
      rcases (dist_one hb (isT_of hb q1 (by omega))).1 q3 with h | h
      · exact .inl h
      · refine .inr ⟨(z - 1).toNat, (par_at h.1 (by omega)).1 h.2, by omega⟩
    · rintro (⟨h1, h2⟩ | ⟨j, h1, h2⟩)
      · have := par_lt ok h1 bl
        refine ⟨by omega, by omega, ?_⟩
        simp
        exact (dist_one hb (isT_of hb (by omega) (by omega))).2 (.inl ⟨h1, h2⟩)
      · have hj := (List.getElem?_eq_some_iff.1 h1).1
        refine ⟨by omega, by omega, ?_⟩
        simp
        exact (dist_one hb (isT_of hb (by omega) (by omega))).2 (.inr ⟨by omega, (par_at (by omega) (by omega)).2 (by rw [show (z - 1).toNat = j by omega]; exact h1)⟩)

/-- The next one on a way is near. -/
theorem next_near {ys : List Int} {a b : Int} (ha : isT ys a = true) (hb : isT ys b = true) (hab : a ≠ b) : nextF ys a b ∈ nearF ys a ∧ isT ys (nextF ys a b) = true := by
  obtain ⟨ok, h7, a0, al⟩ := isT_ok ha
  obtain ⟨_, _, b0, bl⟩ := isT_ok hb
  obtain ⟨u, t, hp⟩ := path_ne ok h7 a0 al b0 bl hab
  have hn : nextF ys a b = u := by simp [nextF, ha, hb, hab, hp]
  have hu := path_mem ok h7 a0 al b0 bl (v := u) (by rw [hp]; simp)
  have hu2 := isT_of ha hu.1 hu.2
  rw [hn]
  refine ⟨?_, hu2⟩
  rw [← near_from ha, mem_fromN]
  refine ⟨by omega, by omega, ?_⟩
  simp
  have := path_left ok h7 a0 al b0 bl (l1 := [a]) (v := u) (l2 := t) (by rw [hp]; rfl)
  unfold distF
  rw [if_pos ⟨ha, hu2⟩, this]
  simp
theorem next_none {ys : List Int} {a b : Int} (h : ¬ (isT ys a = true ∧ isT ys b = true ∧ a ≠ b)) : nextF ys a b = -1 := by
  unfold nextF; rw [if_neg h]

theorem side_none {ys : List Int} {b n : Int} (h : ¬ (isT ys b = true ∧ isT ys n = true)) : sideF ys b n = [] := by
  unfold sideF
  split
  · rename_i h0
    apply List.eq_nil_iff_forall_not_mem.2
    intro z hz
    obtain ⟨_, _, q⟩ := mem_fromN.1 hz
    simp at q
    by_cases hc : isT ys b = true ∧ isT ys z = true ∧ b ≠ z
    · have := (next_near hc.1 hc.2.1 hc.2.2).2
      rw [q] at this
      exact h ⟨hc.1, this⟩
    · rw [next_none hc] at q; omega
  · rfl

section
variable {X : XTab}

theorem ref_Kids (hX : OnlyKnown X) {h : Heap} {v : AVal} {ys : List Int} (o : Sl intR h v ys) (hl : ys.length < 2 ^ 32) (b : Int) :
    Tells (fun q => acallX Try.prog X q F_precentorref9_Kids [v, I b] h) fun r h' => Gl intR h h' r (kidsF ys b) ∧ Ext [] h h' := by
  refine R_precentorref9_Kids _ _ (hX _ _ rfl) ?_
  refine Tells.prot fun Q' hQ => ?_
  unfold S_precentorref9_Kids
  simp
  refine Tells.bind (ref_has hX o (by omega) b) ?_
  rintro _ h ⟨rfl, rfl⟩
  cases hb : isT ys b with
  | false =>
    simp
    exact Tells.ok (hQ _ _ ⟨by simp [kidsF, hb]; exact Gl.nil, .refl⟩)
  | true =>
    simp [J_precentorref9_Kids_0]
    refine Tells.bind (Tells.loop (fun n t g => ∃ (i : Nat) (pre : List Int), t 0 = v ∧ t 1 = I b ∧ t 6 = I i ∧ i + n = ys.length ∧ pre.length ≤ i ∧ kidsN b 0 ys = pre ++ kidsN b i (ys.drop i) ∧ Gl intR h g (t 5) pre ∧ Ext [] h g)
      (Q := fun p g => p.1 = .exit 0 ∧ Gl intR h g (p.2 5) (kidsN b 0 ys) ∧ Ext [] h g) ?_ ys.length _ _ ?_) ?_
    · rintro n t g ⟨i, pre, t0, t1, t6, hi, pl, hk, go, x⟩
      refine Tells.prot fun Q2 hQ2 => ?_
      have og := o.ext x
      unfold L_precentorref9_Kids_2
      simp [t0, t6, og.len]
      refine Tells.cb (fun hc => ?_) (fun hc => ?_)
      · simp at hc
        obtain ⟨y, hy⟩ : ∃ y, ys[i]? = some y := ⟨_, List.getElem?_eq_getElem hc⟩
        obtain ⟨bb, pp, B, q1, q2, q3⟩ := og.atI hy
        have w : IntKind.i64.wrap ((i : Int) + 1) = i + 1 := wrap_id (by omega) (by omega)
        rw [kidsN_drop hy] at hk
        simp [J_precentorref9_Kids_3, t0, t6, q1, q2, q3, t1]
        by_cases hyb : y = b
        · rw [if_pos hyb] at hk
          simp [hyb, w]
          refine Tells.app1 go (by rfl) (by rfl) (show intR.rep g [I (i + 1)] (i + 1) from rfl) (by rfl) (by rfl) (by omega) (by decide) x.next fun s3 h3 g3 x3 y3 z3 => ?_
          simp [J_precentorref9_Kids_4, t6, w]
          exact Tells.ok (hQ2 _ _ (.inl ⟨rfl, n - 1, by omega, i + 1, pre ++ [(i : Int) + 1], by simp [t0], by simp [t1], by simp, by omega, by simp; omega, by rw [hk]; simp, by simpa using g3, y3 [] x⟩))
        · rw [if_neg hyb] at hk
          simp [beq_eq_false_iff_ne.2 hyb, J_precentorref9_Kids_4, t6, w]
          exact Tells.ok (hQ2 _ _ (.inl ⟨rfl, n - 1, by omega, i + 1, pre, by simp [t0], by simp [t1], by simp, by omega, by omega, hk, by simpa using go, x⟩))
      · simp at hc
        rw [List.drop_eq_nil_of_le (by omega)] at hk
        exact Tells.ok (hQ2 _ _ (.inr ⟨by simp, rfl, by rw [hk]; simpa [kidsN] using go, x⟩))
    · exact ⟨0, [], by simp, by simp, by simp, by omega, by simp, by simp, by simpa using Gl.nil, .refl⟩
    · rintro ⟨ex, t⟩ g ⟨rfl, go, x⟩
      simp [J_precentorref9_Kids_1]
      exact Tells.ok (hQ _ _ ⟨by simpa [kidsF, hb] using go, x⟩)

theorem fromN_step (p : Int → Bool) (k : Nat) (x : Int) : fromN p (k + 1) x = if p x = true then x :: fromN p k (x + 1) else fromN p k (x + 1) := rfl

theorem ref_Near (hX : OnlyKnown X) {h : Heap} {v : AVal} {ys : List Int} (o : Sl intR h v ys) (hl : ys.length < 2 ^ 32) (b : Int) :
    Tells (fun q => acallX Try.prog X q F_precentorref9_Near [v, I b] h) fun r h' => Gl intR h h' r (nearF ys b) ∧ Ext [] h h' := by
  refine R_precentorref9_Near _ _ (hX _ _ rfl) ?_
  refine Tells.prot fun Q' hQ => ?_
  unfold S_precentorref9_Near
  simp
  refine Tells.bind (ref_has hX o (by omega) b) ?_
  rintro _ h ⟨rfl, rfl⟩
  cases hb : isT ys b with
  | false =>
    simp
    exact Tells.ok (hQ _ _ ⟨by simp [nearF, hb]; exact Gl.nil, .refl⟩)
  | true =>
    rw [← near_from hb] at hQ
    generalize hP : (fun x => decide (distF ys b x = 1)) = P0 at hQ
    simp [J_precentorref9_Near_0]
    refine Tells.bind (Tells.loop (fun n t g => ∃ (i : Nat) (pre : List Int), t 0 = v ∧ t 1 = I b ∧ t 6 = I i ∧ i + n = ys.length + 1 ∧ pre.length ≤ i ∧ fromN P0 (ys.length + 1) 0 = pre ++ fromN P0 n i ∧ Gl intR h g (t 5) pre ∧ Ext [] h g)
      (Q := fun p g => p.1 = .exit 0 ∧ Gl intR h g (p.2 5) (fromN P0 (ys.length + 1) 0) ∧ Ext [] h g) ?_ (ys.length + 1) _ _ ?_) ?_
    · rintro n t g ⟨i, pre, t0, t1, t6, hi, pl, hk, go, x⟩
      refine Tells.prot fun Q2 hQ2 => ?_
      have og := o.ext x
      unfold L_precentorref9_Near_2
      simp [t0, t6, og.len]
      refine Tells.cb (fun hc => ?_) (fun hc => ?_)
      · simp at hc
        obtain ⟨k, rfl⟩ : ∃ k, n = k + 1 := ⟨n - 1, by omega⟩
        have w : IntKind.i64.wrap ((i : Int) + 1) = i + 1 := wrap_id (by omega) (by omega)
        have hPi : P0 i = decide (distF ys b i = 1) := by rw [← hP]
        rw [fromN_step P0 k] at hk
        simp [J_precentorref9_Near_3, t0, t6, t1]
        refine Tells.bind (ref_Dist hX og (by omega) b i) ?_
        rintro _ h2 ⟨rfl, x2⟩
        by_cases he : distF ys b i = 1
        · rw [hPi, if_pos (by simpa using he)] at hk
          simp [he]
          refine Tells.app1 (go.e x2) (by rfl) (by rfl) (show intR.rep h2 [I i] i from rfl) (by rfl) (by rfl) (by omega) (by decide) (x.trans x2).next fun s3 h3 g3 x3 y3 z3 => ?_
          simp [J_precentorref9_Near_4, t6, w]
          exact Tells.ok (hQ2 _ _ (.inl ⟨rfl, k, by omega, i + 1, pre ++ [(i : Int)], by simp [t0], by simp [t1], by simp, by omega, by simp; omega, by rw [hk]; simp, by simpa using g3, y3 [] (x.trans x2)⟩))
        · rw [hPi, if_neg (by simpa using he)] at hk
          simp [beq_eq_false_iff_ne.2 he, J_precentorref9_Near_4, t6, w]
          exact Tells.ok (hQ2 _ _ (.inl ⟨rfl, k, by omega, i + 1, pre, by simp [t0], by simp [t1], by simp, by omega, by omega, by rw [hk]; simp, by simpa using go.e x2, x.trans x2⟩))
      · simp at hc
        have : n = 0 := by omega
        subst this
        exact Tells.ok (hQ2 _ _ (.inr ⟨by simp, rfl, by rw [hk]; simpa [fromN] using go, x⟩))
    · exact ⟨0, [], by simp, by simp, by simp, by omega, by simp, by simp, by simpa using Gl.nil, .refl⟩
    · rintro ⟨ex, t⟩ g ⟨rfl, go, x⟩
      simp [J_precentorref9_Near_1]
      exact Tells.ok (hQ _ _ ⟨go, x⟩)

theorem ref_Side (hX : OnlyKnown X) {h : Heap} {v : AVal} {ys : List Int} (o : Sl intR h v ys) (hl : ys.length < 2 ^ 32) (b c : Int) :
    Tells (fun q => acallX Try.prog X q F_precentorref9_Side [v, I b, I c] h) fun r h' => Gl intR h h' r (sideF ys b c) ∧ Ext [] h h' := by
  refine R_precentorref9_Side _ _ _ (hX _ _ rfl) ?_
  refine Tells.prot fun Q' hQ => ?_
  unfold S_precentorref9_Side
  simp
  refine Tells.bind (ref_has hX o (by omega) b) ?_
  rintro _ h ⟨rfl, rfl⟩
  cases hb : isT ys b with
  | false =>
    simp
    exact Tells.ok (hQ _ _ ⟨by rw [side_none (by simp [hb])]; exact Gl.nil, .refl⟩)
  | true =>
    simp
    refine Tells.bind (ref_has hX o (by omega) c) ?_
    rintro _ h ⟨rfl, rfl⟩
    cases hc : isT ys c with
    | false =>
      simp
      exact Tells.ok (hQ _ _ ⟨by rw [side_none (by simp [hc])]; exact Gl.nil, .refl⟩)
    | true =>
      have hc0 := (isT_ok hc).2.2.1
      have hs : sideF ys b c = fromN (fun x => decide (nextF ys b x = c)) (ys.length + 1) 0 := by unfold sideF; rw [if_pos hc0]
      rw [hs] at hQ
      generalize hP : (fun x => decide (nextF ys b x = c)) = P0 at hQ
      simp [J_precentorref9_Side_0]
      refine Tells.bind (Tells.loop (fun n t g => ∃ (i : Nat) (pre : List Int), t 0 = v ∧ t 1 = I b ∧ t 2 = I c ∧ t 8 = I i ∧ i + n = ys.length + 1 ∧ pre.length ≤ i ∧ fromN P0 (ys.length + 1) 0 = pre ++ fromN P0 n i ∧ Gl intR h g (t 7) pre ∧ Ext [] h g)
        (Q := fun p g => p.1 = .exit 0 ∧ Gl intR h g (p.2 7) (fromN P0 (ys.length + 1) 0) ∧ Ext [] h g) ?_ (ys.length + 1) _ _ ?_) ?_
      · rintro n t g ⟨i, pre, t0, t1, t2, t8, hi, pl, hk, go, x⟩
        refine Tells.prot fun Q2 hQ2 => ?_
        have og := o.ext x
        unfold L_precentorref9_Side_2
        simp [t0, t8, og.len]
        refine Tells.cb (fun hc => ?_) (fun hc => ?_)
        · simp at hc
          obtain ⟨k, rfl⟩ : ∃ k, n = k + 1 := ⟨n - 1, by omega⟩
          have w : IntKind.i64.wrap ((i : Int) + 1) = i + 1 := wrap_id (by omega) (by omega)
          have hPi : P0 i = decide (nextF ys b i = c) := by rw [← hP]
          rw [fromN_step P0 k] at hk
          simp [J_precentorref9_Side_3, t0, t8, t1, t2]
          refine Tells.bind (ref_Next hX og (by omega) b i) ?_
          rintro _ h2 ⟨rfl, x2⟩
          by_cases he : nextF ys b i = c
          · rw [hPi, if_pos (by simpa using he)] at hk
            simp [he]
            refine Tells.app1 (go.e x2) (by rfl) (by rfl) (show intR.rep h2 [I i] i from rfl) (by rfl) (by rfl) (by omega) (by decide) (x.trans x2).next fun s3 h3 g3 x3 y3 z3 => ?_
            simp [J_precentorref9_Side_4, t8, w]
            exact Tells.ok (hQ2 _ _ (.inl ⟨rfl, k, by omega, i + 1, pre ++ [(i : Int)], by simp [t0], by simp [t1], by simp [t2], by simp, by omega, by simp; omega, by rw [hk]; simp, by simpa using g3, y3 [] (x.trans x2)⟩))
          · rw [hPi, if_neg (by simpa using he)] at hk
            simp [beq_eq_false_iff_ne.2 he, J_precentorref9_Side_4, t8, w]
            exact Tells.ok (hQ2 _ _ (.inl ⟨rfl, k, by omega, i + 1, pre, by simp [t0], by simp [t1], by simp [t2], by simp, by omega, by omega, by rw [hk]; simp, by simpa using go.e x2, x.trans x2⟩))
        · simp at hc
          have : n = 0 := by omega
          subst this
          exact Tells.ok (hQ2 _ _ (.inr ⟨by simp, rfl, by rw [hk]; simpa [fromN] using go, x⟩))
      · exact ⟨0, [], by simp, by simp, by simp, by simp, by omega, by simp, by simp, by simpa using Gl.nil, .refl⟩
      · rintro ⟨ex, t⟩ g ⟨rfl, go, x⟩
        simp [J_precentorref9_Side_1]
        exact Tells.ok (hQ _ _ ⟨go, x⟩)
end
end Go.Proofs.Ythachecebkmlaaa
