/-
  Law TreeSides: the plain law, and the walk.
-/
import Derived.Test.YthachecebkmlaaaLaw9f
import Derived.Test.YthachecebkmlaaaMak
set_option linter.unusedVariables false
set_option linter.unusedSimpArgs false
namespace Go.Proofs.Ythachecebkmlaaa
open Go.Ab

theorem path_root {ys : List Int} {a : Int} (ha : isT ys a = true) : pathF ys a 0 = upF ys a := by
  obtain ⟨ok, h7, a0, al⟩ := isT_ok ha
  obtain ⟨z, hz⟩ := U_last ok a.toNat a (by omega) a0 al
  rw [path_of ok h7 a0 al (by omega) (by omega) (x := z) (y := []) (c := 0) ⟨by rw [hz, U_zero], by simp, by omega, by omega, .inr (.inl rfl)⟩, hz]
  rfl
theorem kid_up {ys : List Int} {b : Int} (hb : isT ys b = true) {z : Int} (hz : z ∈ kidsN b 0 ys) : distF ys 0 z = distF ys 0 b + 1 ∧ nextF ys z 0 = b ∧ isT ys z = true := by
  obtain ⟨ok, h7, b0, bl⟩ := isT_ok hb
  obtain ⟨j, h1, h2⟩ := mem_kidsN.1 hz
  have hj := (List.getElem?_eq_some_iff.1 h1).1
  have tz := isT_of hb (c := z) (by omega) (by omega)
  have t0 := isT_of hb (c := 0) (by omega) (by omega)
  have hp : b = parF ys z := (par_at (by omega) (by omega)).2 (by rw [show (z - 1).toNat = j by omega]; exact h1)
  have hu : upF ys z = z :: upF ys b := by rw [hp]; exact U_cons ok (by omega) (by omega)
  refine ⟨?_, ?_, tz⟩
  · rw [dist_symm t0 tz, dist_symm t0 hb, distF_path tz t0, distF_path hb t0, path_root tz, path_root hb, hu]
    try simp
  · obtain ⟨t, ht⟩ := U_head ok b b0 bl
    have : z ≠ 0 := by omega
    simp [nextF, tz, t0, this, path_root tz, hu, ht]
theorem near_sorted {ys : List Int} {b : Int} (hb : isT ys b = true) : (nearF ys b).Pairwise (· < ·) := by
  rw [← near_from hb]; exact fromN_sorted
theorem near_ge {ys : List Int} {b z : Int} (hb : isT ys b = true) (hz : z ∈ nearF ys b) : 0 ≤ z ∧ z ≤ ys.length := by
  rw [← near_from hb] at hz
  have := mem_fromN.1 hz
  omega
theorem mem_side {ys : List Int} {b n x : Int} (hn : 0 ≤ n) : x ∈ sideF ys b n ↔ 0 ≤ x ∧ x ≤ ys.length ∧ nextF ys b x = n := by
  unfold sideF
  rw [if_pos hn, mem_fromN]
  try simp
  omega
theorem side_sorted (ys : List Int) (b n : Int) : (sideF ys b n).Pairwise (· < ·) := by
  unfold sideF
  split
  · exact fromN_sorted
  · simp
theorem sorted_at {l : List Int} (h : l.Pairwise (· < ·)) {k : Nat} {x y : Int} (h1 : l[k]? = some x) (h2 : l[k + 1]? = some y) : x < y := by
  have a := List.getElem?_eq_some_iff.1 h1
  have b := List.getElem?_eq_some_iff.1 h2
  have := List.pairwise_iff_getElem.1 h k (k + 1) a.1 b.1 (by omega)
  rw [a.2, b.2] at this
  exact this
theorem sorted_take {l : List Int} (h : l.Pairwise (· < ·)) {k : Nat} {x : Int} (h1 : l[k]? = some x) : x ∉ l.take k := by
  intro hm
  obtain ⟨j, hj, e⟩ := List.mem_iff_getElem.1 hm
  simp at hj
  rw [List.getElem_take] at e
  have a := List.getElem?_eq_some_iff.1 h1
  have := List.pairwise_iff_getElem.1 h j k (by omega) a.1 (by omega)
  rw [a.2, e] at this
  omega
theorem mem_take_succ {l : List Int} {k : Nat} {x z : Int} (h1 : l[k]? = some x) : z ∈ l.take (k + 1) ↔ z ∈ l.take k ∨ z = x := by
  rw [List.take_add_one, h1]
  try simp

section
variable {X : XTab}

/-- Those of one side are marked. -/
theorem sidesMark (hX : OnlyKnown X) {h : Heap} {t : T} {v w : AVal} {ys zs : List Int} {bs : Nat} {f : Nat → Int} (oy : Sl intR h v ys) (hl : ys.length ≤ 7) (ow : Sl intR h w zs) (hz : ∀ z, z ∈ zs → 0 ≤ z ∧ z ≤ ys.length) (srt : zs.Pairwise (· < ·)) (hzl : zs.length ≤ 100)
    (ob : Ob h bs (fnC f (ys.length + 1))) (hf : ∀ x, 0 ≤ f x ∧ f x ≤ 1) (e6 : t 6 = v) (e7 : t 7 = .sl bs 0 (ys.length + 1) (ys.length + 1) 1 true) (e10 : t 10 = w) (e11 : t 11 = I 0) :
    Tells (fun m => loopN (L_precentorlaw9_TreeSides_13 Try.prog (acallX Try.prog X m) m) m t h) fun p g => p.1 = .exit 2 ∧ Ob g bs (fnC (fun x => f x + if (x : Int) ∈ zs then 1 else 0) (ys.length + 1)) ∧ Ext [bs] h g ∧ ∀ j, j < 11 → p.2 j = t j := by
  refine Tells.loop (fun n t' g => ∃ k : Nat, t' 11 = I k ∧ k + n = zs.length ∧ Ob g bs (fnC (fun x => f x + if (x : Int) ∈ zs.take k then 1 else 0) (ys.length + 1)) ∧ Ext [bs] h g ∧ ∀ j, j < 11 → t' j = t j) ?_ zs.length _ _ ?_
  · rintro n t' g ⟨k, e11, hk, ob, x, ht⟩
    refine Tells.prot fun Q2 hQ2 => ?_
    have owg := ow.ext x
    have oyg := oy.ext x
    have k6 := (ht 6 (by decide)).trans e6
    have k7 := (ht 7 (by decide)).trans e7
    have k10 := (ht 10 (by decide)).trans e10
    unfold L_precentorlaw9_TreeSides_13
    simp [e11, k10, owg.len]
    refine Tells.cb (fun hc => ?_) (fun hc => ?_)
    · simp at hc
      obtain ⟨z, hzk⟩ : ∃ z, zs[k]? = some z := ⟨_, List.getElem?_eq_getElem hc⟩
      have hzr := hz z (List.mem_of_getElem? hzk)
      obtain ⟨b1, p1, B1, q1, q2, q3⟩ := owg.atI hzk
      obtain ⟨m, rfl⟩ : ∃ m : Nat, z = m := ⟨z.toNat, by omega⟩
      have hm : m < ys.length + 1 := by omega
      have hnt := sorted_take srt hzk
      have q7 : ixsR 1 (.sl bs 0 (ys.length + 1) (ys.length + 1) 1 true) (.int .i64 (m : Int)) = some (.ptr bs (m * 1)) := ixs_made hm
      rw [Nat.mul_one] at q7
      have w1 : IntKind.i64.wrap ((k : Int) + 1) = k + 1 := wrap_id (by omega) (by omega)
      have hfm := hf m
      have w2 : IntKind.i64.wrap (f m + 1) = f m + 1 := wrap_id (by omega) (by omega)
      have hat : (fnC (fun x => f x + if (x : Int) ∈ zs.take k then 1 else 0) (ys.length + 1))[m]? = some (I (f m)) := by
        rw [fnC_at hm]; simp [hnt]
      have fin : ∀ t2 : T, t2 7 = t' 7 → t2 10 = t' 10 → t2 11 = t' 11 → (∀ j, j < 11 → t2 j = t' j) → Tells (fun m => J_precentorlaw9_TreeSides_16 Try.prog (acallX Try.prog X m) m (blkK 3 (sqK (J_precentorlaw9_TreeSides_15 Try.prog (acallX Try.prog X m) m okK) okK)) t2 g) Q2 := by
        intro t2 s7 s10 s11 s
        have q1' : ixsR 1 w (I k) = some (.ptr b1 p1) := q1
        simp [J_precentorlaw9_TreeSides_16, s7, s10, s11, k7, k10, e11, q1', q2, q3, q7, ob.1, hat, w2]
        refine Tells.st1 ob rfl rfl (by rw [fnC_len]; exact hm) fun g2 ob2 x2 => ?_
        simp [J_precentorlaw9_TreeSides_15, s11, e11, w1]
        refine Tells.ok (hQ2 _ _ (.inl ⟨rfl, n - 1, by omega, k + 1, by simp, by omega, ?_, x.trans x2, fun j hj => ?_⟩))
        · rw [fnC_set (g := fun x => f x + if (x : Int) ∈ zs.take (k + 1) then 1 else 0)] at ob2
          · exact ob2
          · intro y hy
            have hms := mem_take_succ (z := (y : Int)) hzk
            by_cases e : y = m
            · subst e; simp [hms]
            · have e' : ¬ (y : Int) = (m : Int) := by omega
              simp [hms, e, e']
        · rw [← ht j hj, ← s j hj]
          dsimp only
          repeat rw [upd_ne _ _ _ _ (by omega)]
      by_cases hk0 : 0 < k
      · obtain ⟨z0, hz0⟩ : ∃ z, zs[k - 1]? = some z := ⟨_, List.getElem?_eq_getElem (by omega)⟩
        have hlt := sorted_at srt hz0 (by rw [show k - 1 + 1 = k by omega]; exact hzk)
        obtain ⟨b2, p2, B2, r1, r2, r3⟩ := owg.atI hz0
        rw [show ((k - 1 : Nat) : Int) = (k : Int) - 1 by omega] at r1
        have w3 : IntKind.i64.wrap ((k : Int) - 1) = k - 1 := wrap_id (by omega) (by omega)
        simp [J_precentorlaw9_TreeSides_14, k10, e11, q1, q2, q3, show ¬ (m : Int) < 0 by omega, k6, oyg.len, show ¬ (ys.length : Int) < m by omega, show ¬ ys.length < m by omega, hk0, w3, r1, r2, r3, show ¬ (m : Int) ≤ z0 by omega]
        exact fin _ (by simp) (by simp) (by simp) fun j hj => by
          repeat rw [upd_ne _ _ _ _ (by omega)]
      · have : k = 0 := by omega
        subst this
        simp at q1
        simp [J_precentorlaw9_TreeSides_14, k10, e11, q1, q2, q3, show ¬ (m : Int) < 0 by omega, k6, oyg.len, show ¬ (ys.length : Int) < m by omega, show ¬ ys.length < m by omega]
        exact fin _ (by simp) (by simp) (by simp) fun j hj => by
          repeat rw [upd_ne _ _ _ _ (by omega)]
    · simp at hc
      rw [List.take_of_length_le (by omega)] at ob
      refine Tells.ok (hQ2 _ _ (.inr ⟨by simp, rfl, ob, x, fun j hj => ?_⟩))
      rw [← ht j hj]
      dsimp only
      repeat rw [upd_ne _ _ _ _ (by omega)]
  · exact ⟨0, e11, by omega, by simpa using ob, .refl, fun _ _ => rfl⟩

theorem treeSides (hX : OnlyKnown X) (hk : X F_precentorlaw9_known [] = some (.bool true)) {h : Heap} {l : AVal} {ls : List Int} (ol : RawInts h l ls) (b0 : Int) (ib : In64 b0) :
    Tells (fun m => acallX Try.prog X m F_precentorlaw9_TreeSides [l, I b0] h) fun r h' => r = .bool true := by
  refine R_precentorlaw9_TreeSides _ _ (hX _ _ rfl) ?_
  refine Tells.prot fun Q' hQ => ?_
  unfold S_precentorlaw9_TreeSides
  simp [bldR, fillR, splice, ol.sl.known, ol.sl.cells]
  refine Tells.box rfl rfl fun h1 bf f1 x1 l1 => ?_
  try simp
  refine Tells.bind (Tree hX 8 ⟨by omega, by omega⟩ (by omega) (RawInts.feed (ol.ext x1) f1) (by omega)) ?_
  rintro v h2 ⟨ys, gy, ok, hlt, _, x2, _⟩
  have hl7 : ys.length ≤ 7 := by have := hlt (by omega); omega
  have oy := gy.1
  have w1 : IntKind.i64.wrap ((ys.length : Int) + 1) = ((ys.length + 1 : Nat) : Int) := by rw [wrap_id (by omega) (by omega)]; omega
  simp [oy.len, w1]
  refine Tells.bind (Pick hX b0 _ ⟨by omega, by omega⟩ h2) ?_
  rintro _ h2 ⟨rfl, rfl⟩
  have pb := pick_lo b0 (ys.length + 1)
  have pb' := pick_hi b0 (ys.length + 1) (by omega)
  generalize pick b0 (ys.length + 1) = b at *
  have tb := rightT_ok ok hl7 pb (by omega)
  have w1' : IntKind.i64.wrap ((ys.length : Int) + 1) = (ys.length : Int) + 1 := wrap_id (by omega) (by omega)
  try simp [oy.len, w1']
  rw [show (ys.length : Int) + 1 = ((ys.length + 1 : Nat) : Int) by omega]
  refine Tells.mak (k := ys.length + 1) (by rfl) (by omega) (by decide) (fnC_zeros _) fun h3 bs l3 o3 x3 => ?_
  have oy3 := oy.ext x3
  try simp
  refine Tells.bind (tree_Near hX oy3 (by omega) b) ?_
  rintro w h4 ⟨gn, x4⟩
  have on := gn.1
  have oy4 := oy3.ext x4
  have o4 := o3.e x4
  have nl := nearF_len ys b
  have ns := near_sorted tb
  try simp
  generalize hN : nearF ys b = N at *
  refine Tells.bind (Tells.loop (fun n t g => ∃ i : Nat, t 1 = I b ∧ t 6 = v ∧ t 7 = .sl bs 0 (ys.length + 1) (ys.length + 1) 1 true ∧ t 8 = w ∧ t 9 = I i ∧ i + n = N.length ∧ Ob g bs (fnC (fun x => if nextF ys b x ∈ N.take i then 1 else 0) (ys.length + 1)) ∧ Ext [bs] h4 g)
    (Q := fun p g => p.1 = .exit 0 ∧ p.2 1 = I b ∧ p.2 6 = v ∧ p.2 7 = .sl bs 0 (ys.length + 1) (ys.length + 1) 1 true ∧ p.2 8 = w ∧ Ob g bs (fnC (fun x => if nextF ys b x ∈ N then 1 else 0) (ys.length + 1)) ∧ Ext [bs] h4 g) ?_ N.length _ _ ?_) ?_
  · rintro n t g ⟨i, t1, t6, t7, t8, t9, hi, ob, x⟩
    refine Tells.prot fun Q2 hQ2 => ?_
    have ong := on.ext x
    unfold L_precentorlaw9_TreeSides_10
    simp [t8, t9, ong.len]
    refine Tells.cb (fun hc => ?_) (fun hc => ?_)
    · simp at hc
      obtain ⟨z, hz⟩ : ∃ z, N[i]? = some z := ⟨_, List.getElem?_eq_getElem hc⟩
      have hzg := near_ge tb (by rw [hN]; exact List.mem_of_getElem? hz)
      obtain ⟨b1, p1, B1, q1, q2, q3⟩ := ong.atI hz
      have w2 : IntKind.i64.wrap ((i : Int) + 1) = i + 1 := wrap_id (by omega) (by omega)
      simp [J_precentorlaw9_TreeSides_11, t6, t1, t8, t9, q1, q2, q3]
      refine Tells.bind (tree_Side hX (oy4.ext x) (by omega) b z) ?_
      rintro u g2 ⟨gs, x2⟩
      have sl : (sideF ys b z).length ≤ 100 := by
        unfold sideF
        split
        · have := fromN_len (fun x => decide (nextF ys b x = z)) (ys.length + 1) 0
          omega
        · simp
      try simp
      refine Tells.bind (sidesMark hX (v := v) (w := u) (zs := sideF ys b z) ((oy4.ext x).ext x2) hl7 gs.1 (fun y hy => by have := (mem_side hzg.1).1 hy; omega) (side_sorted _ _ _) sl (ob.e x2) (fun x => by split <;> omega) (by simp [t6]) (by simp [t7]) (by simp) (by simp)) ?_
      rintro ⟨ex, t'⟩ g3 ⟨rfl, ob3, x3, kt⟩
      simp only at kt
      have k9 : t' 9 = I i := by rw [kt 9 (by decide)]; simp [t9]
      simp [J_precentorlaw9_TreeSides_12, k9, w2]
      refine Tells.ok (hQ2 _ _ (.inl ⟨rfl, n - 1, by omega, i + 1, by simp [kt 1, t1], by simp [kt 6, t6], by simp [kt 7, t7], by simp [kt 8, t8], by simp, by omega, ?_, (x.trans x2.of).trans x3⟩))
      rw [fnC_congr (g := fun x => if nextF ys b x ∈ N.take (i + 1) then 1 else 0)] at ob3
      · exact ob3
      · intro y hy
        have hms := mem_take_succ (z := nextF ys b y) hz
        have hsd := mem_side (ys := ys) (b := b) (x := (y : Int)) hzg.1
        have hnt := sorted_take ns hz
        by_cases e : nextF ys b y = z
        · have : (y : Int) ∈ sideF ys b z := hsd.2 ⟨by omega, by omega, e⟩
          rw [if_pos this, if_neg (by rw [e]; exact hnt), if_pos (hms.2 (.inr e))]; rfl
        · have : ¬ (y : Int) ∈ sideF ys b z := fun q => e (hsd.1 q).2.2
          rw [if_neg this]
          by_cases m : nextF ys b y ∈ N.take i
          · rw [if_pos m, if_pos (hms.2 (.inl m))]; rfl
          · rw [if_neg m, if_neg fun q => (hms.1 q).elim m e]; rfl
    · simp at hc
      rw [List.take_of_length_le (by omega)] at ob
      exact Tells.ok (hQ2 _ _ (.inr ⟨by simp, rfl, by simp [t1], by simp [t6], by simp [t7], by simp [t8], ob, x⟩))
  · exact ⟨0, by simp, by simp, by simp, by simp, by simp, by omega, by simpa using o4, .refl⟩
  · rintro ⟨ex, t⟩ g ⟨rfl, t1, t6, t7, t8, ob, x⟩
    simp only at t1 t6 t7 t8
    have hseen : ∀ y : Nat, y < ys.length + 1 → (if nextF ys b y ∈ N then (1 : Int) else 0) = if (y : Int) = b then 0 else 1 := by
      intro y hy
      by_cases e : (y : Int) = b
      · rw [if_pos e, if_neg]
        intro q
        have := near_ge tb (by rw [hN]; exact q)
        rw [e] at this
        have : nextF ys b b = -1 := by simp [nextF]
        omega
      · rw [if_neg e, if_pos]
        rw [← hN]
        exact (next_near tb (isT_of tb (show (0 : Int) ≤ y by omega) (by omega)) (Ne.symm e)).1
    rw [fnC_congr (g := fun y => if (y : Int) = b then 0 else 1) hseen] at ob
    simp [J_precentorlaw9_TreeSides_0]
    refine Tells.bind (Tells.loop (fun n t' g' => ∃ i : Nat, t' 1 = I b ∧ t' 6 = v ∧ t' 7 = .sl bs 0 (ys.length + 1) (ys.length + 1) 1 true ∧ t' 8 = w ∧ t' 12 = I i ∧ i + n = ys.length + 1 ∧ g' = g)
      (Q := fun p g' => g' = g ∧ p.1 = .exit 4 ∧ p.2 1 = I b ∧ p.2 6 = v ∧ p.2 8 = w) ?_ (ys.length + 1) _ _ ?_) ?_
    · rintro n t' g' ⟨i, k1, k6, k7, k8, k12, hi, rfl⟩
      refine Tells.prot fun Q2 hQ2 => ?_
      unfold L_precentorlaw9_TreeSides_7
      simp [k12, k6, (oy4.ext x).len]
      refine Tells.cb (fun hc => ?_) (fun hc => ?_)
      · simp at hc
        have hlt : i < ys.length + 1 := by omega
        have q7 : ixsR 1 (.sl bs 0 (ys.length + 1) (ys.length + 1) 1 true) (.int .i64 (i : Int)) = some (.ptr bs (i * 1)) := ixs_made hlt
        rw [Nat.mul_one] at q7
        have hat : (fnC (fun y => if (y : Int) = b then 0 else 1) (ys.length + 1))[i]? = some (I (if (i : Int) = b then 0 else 1)) := fnC_at hlt
        have w2 : IntKind.i64.wrap ((i : Int) + 1) = i + 1 := wrap_id (by omega) (by omega)
        by_cases e : (i : Int) = b
        · rw [if_pos e] at hat
          subst e
          simp [J_precentorlaw9_TreeSides_8, k12, k1, k7, q7, ob.1, hat, J_precentorlaw9_TreeSides_9, w2]
          exact Tells.ok (hQ2 _ _ (.inl ⟨rfl, n - 1, by omega, i + 1, by simp [k1], by simp [k6], by simp [k7], by simp [k8], by simp, by omega, rfl⟩))
        · rw [if_neg e] at hat
          have e2 : ((i : Int) == b) = false := beq_eq_false_iff_ne.2 e
          have e3 : ((i : Int) != b) = true := by simp [e]
          simp [J_precentorlaw9_TreeSides_8, k12, k1, e2, e3, k7, q7, ob.1, hat, J_precentorlaw9_TreeSides_9, w2]
          exact Tells.ok (hQ2 _ _ (.inl ⟨rfl, n - 1, by omega, i + 1, by simp [k1], by simp [k6], by simp [k7], by simp [k8], by simp, by omega, rfl⟩))
      · simp at hc
        exact Tells.ok (hQ2 _ _ (.inr ⟨by simp, rfl, rfl, by simp [k1], by simp [k6], by simp [k8]⟩))
    · exact ⟨0, by simp [t1], by simp [t6], by simp [t7], by simp [t8], by simp, by omega, rfl⟩
    · rintro ⟨ex, t'⟩ g' ⟨rfl, rfl, k1, k6, k8⟩
      simp only at k1 k6 k8
      have oyg := oy4.ext x
      simp [J_precentorlaw9_TreeSides_1, k6, k1]
      refine Tells.bind (tree_Kids hX oyg (by omega) b) ?_
      rintro u g2 ⟨gk, x2⟩
      have gk : Sl intR g2 u (kidsN b 0 ys) := by simpa [kidsF, tb] using gk.1
      have kl := kidsN_len b 0 ys
      try simp
      refine Tells.bind (Tells.loop (fun n t2 g' => ∃ i : Nat, t2 1 = I b ∧ t2 6 = v ∧ t2 8 = w ∧ t2 13 = u ∧ t2 14 = I i ∧ i + n = (kidsN b 0 ys).length ∧ Ext [] g2 g')
        (Q := fun p g' => Ext [] g2 g' ∧ p.1 = .exit 6 ∧ p.2 1 = I b ∧ p.2 8 = w ∧ p.2 13 = u) ?_ (kidsN b 0 ys).length _ _ ?_) ?_
      · rintro n t2 g3 ⟨i, s1, s6, s8, s13, s14, hi, y⟩
        refine Tells.prot fun Q2 hQ2 => ?_
        have gkg := gk.ext y
        unfold L_precentorlaw9_TreeSides_4
        simp [s14, s13, gkg.len]
        refine Tells.cb (fun hc => ?_) (fun hc => ?_)
        · simp at hc
          obtain ⟨z, hz⟩ : ∃ z, (kidsN b 0 ys)[i]? = some z := ⟨_, List.getElem?_eq_getElem hc⟩
          obtain ⟨d1, d2, tz⟩ := kid_up tb (List.mem_of_getElem? hz)
          obtain ⟨b1, p1, B1, q1, q2, q3⟩ := gkg.atI hz
          have w2 : IntKind.i64.wrap ((i : Int) + 1) = i + 1 := wrap_id (by omega) (by omega)
          have dl := distF_le ys 0 b
          have w3 : IntKind.i64.wrap (distF ys 0 b + 1) = distF ys 0 b + 1 := wrap_id (by omega) (by omega)
          have oy3 := (oyg.ext x2).ext y
          simp [J_precentorlaw9_TreeSides_5, s6, s13, s14, q1, q2, q3]
          refine Tells.bind (tree_Dist hX oy3 (by omega) 0 z) ?_
          rintro _ g4 ⟨rfl, x4⟩
          have gk4 := gkg.ext x4
          simp [s1]
          refine Tells.bind (tree_Dist hX (oy3.ext x4) (by omega) 0 b) ?_
          rintro _ g5 ⟨rfl, x5⟩
          obtain ⟨b1', p1', B1', q1', q2', q3'⟩ := (gk4.ext x5).atI hz
          have jj := q1.symm.trans q1'
          cases jj
          simp [w3, d1, s6, s13, s14, q1, q2', q3']
          refine Tells.bind (tree_Next hX ((oy3.ext x4).ext x5) (by omega) z 0) ?_
          rintro _ g6 ⟨rfl, x6⟩
          simp [d2, s1, J_precentorlaw9_TreeSides_6, s14, w2]
          exact Tells.ok (hQ2 _ _ (.inl ⟨rfl, n - 1, by omega, i + 1, by simp [s1], by simp [s6], by simp [s8], by simp [s13], by simp, by omega, ((y.trans x4).trans x5).trans x6⟩))
        · simp at hc
          exact Tells.ok (hQ2 _ _ (.inr ⟨by simp, y, rfl, by simp [s1], by simp [s8], by simp [s13]⟩))
      · exact ⟨0, by simp [k1], by simp [k6], by simp [k8], by simp, by simp, by omega, .refl⟩
      · rintro ⟨ex, t2⟩ g3 ⟨y, rfl, s1, s8, s13⟩
        simp only at s1 s8 s13
        have on3 := ((on.ext x).ext x2).ext y
        have hlen : (N.length : Int) = (kidsN b 0 ys).length + if 0 < b then 1 else 0 := by
          rw [← hN]
          unfold nearF
          rw [if_pos tb, List.length_append]
          split <;> simp <;> omega
        by_cases hb : 0 < b
        · rw [if_pos hb] at hlen
          have w2 : IntKind.i64.wrap (((kidsN b 0 ys).length : Int) + 1) = (kidsN b 0 ys).length + 1 := wrap_id (by omega) (by omega)
          simp [J_precentorlaw9_TreeSides_2, s1, hb, J_precentorlaw9_TreeSides_3]
          refine Tells.bind (known_X hk g3) ?_
          rintro _ g3 ⟨rfl, rfl⟩
          simp [s8, s13, on3.len, (gk.ext y).len, w2, hlen]
          exact Tells.ok (hQ _ _ rfl)
        · rw [if_neg hb] at hlen
          have w2 : IntKind.i64.wrap ((kidsN b 0 ys).length : Int) = (kidsN b 0 ys).length := wrap_id (by omega) (by omega)
          simp [J_precentorlaw9_TreeSides_2, s1, hb, J_precentorlaw9_TreeSides_3]
          refine Tells.bind (known_X hk g3) ?_
          rintro _ g3 ⟨rfl, rfl⟩
          simp [s8, s13, on3.len, (gk.ext y).len, w2, hlen]
          exact Tells.ok (hQ _ _ rfl)
end
end Go.Proofs.Ythachecebkmlaaa
