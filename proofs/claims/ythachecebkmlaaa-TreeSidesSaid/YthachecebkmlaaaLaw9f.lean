/-
  Law TreeWays: the plain law, and the walk.
-/
import Derived.Test.YthachecebkmlaaaRef9b
import Derived.Test.YthachecebkmlaaaLaw9d
set_option linter.unusedVariables false
set_option linter.unusedSimpArgs false
namespace Go.Proofs.Ythachecebkmlaaa
open Go.Ab

theorem nearF_len (ys : List Int) (u : Int) : (nearF ys u).length ≤ ys.length + 1 := by
  have := kidsN_len u 0 ys
  unfold nearF
  by_cases h : isT ys u = true
  · rw [if_pos h, List.length_append]
    by_cases p : 0 < u
    · rw [if_pos p]; simp; omega
    · rw [if_neg p]; simp; omega
  · rw [if_neg h]; simp
theorem rightT_ok {ys : List Int} (ok : TreeOk ys) (h7 : ys.length ≤ 7) {b : Int} (h0 : 0 ≤ b) (hl : b ≤ ys.length) : isT ys b = true := by
  unfold isT rightT
  simp only [Bool.and_eq_true, decide_eq_true_eq]
  refine ⟨⟨⟨(rightFrom_all ys 0).2 fun i z hz => ?_, h7⟩, h0⟩, hl⟩
  have := ok i z hz
  simpa using this
theorem distF_path {ys : List Int} {a b : Int} (ha : isT ys a = true) (hb : isT ys b = true) : distF ys a b = (pathF ys a b).length - 1 := by
  unfold distF; rw [if_pos ⟨ha, hb⟩]
theorem dist_symm {ys : List Int} {a b : Int} (ha : isT ys a = true) (hb : isT ys b = true) : distF ys a b = distF ys b a := by
  obtain ⟨ok, h7, a0, al⟩ := isT_ok ha
  obtain ⟨_, _, b0, bl⟩ := isT_ok hb
  rw [distF_path ha hb, distF_path hb ha, path_symm ok h7 a0 al b0 bl, List.length_reverse]
theorem dist_zero {ys : List Int} {a b : Int} (ha : isT ys a = true) (hb : isT ys b = true) : distF ys a b = 0 ↔ a = b := by
  obtain ⟨ok, h7, a0, al⟩ := isT_ok ha
  obtain ⟨_, _, b0, bl⟩ := isT_ok hb
  rw [distF_path ha hb]
  constructor
  · intro h
    obtain ⟨t, ht⟩ := path_cons ok h7 a0 al b0 bl
    rw [ht] at h
    simp at h
    subst h
    exact path_one ok h7 a0 al b0 bl ht
  · intro h
    subst h
    rw [path_self ok h7 a0 al]
    rfl
/-- The brokers of a way: as many as there are at most. -/
theorem U_nodup {ys : List Int} (ok : TreeOk ys) : ∀ (k : Nat) (a : Int), a ≤ k → 0 ≤ a → a ≤ ys.length → (upF ys a).Pairwise (· > ·) ∧ ∀ z, z ∈ upF ys a → 0 ≤ z ∧ z ≤ a
  | 0, a, h, h0, hl => by
    have : a = 0 := by omega
    subst this
    rw [U_zero]
    try simp
  | k + 1, a, h, h0, hl => by
    by_cases p : 0 < a
    · obtain ⟨q1, q2⟩ := par_lt ok p hl
      obtain ⟨k1, k2⟩ := U_nodup ok k (parF ys a) (by omega) q1 (by omega)
      rw [U_cons ok p hl]
      refine ⟨List.pairwise_cons.2 ⟨fun z hz => by have := k2 z hz; omega, k1⟩, fun z hz => ?_⟩
      rcases List.mem_cons.1 hz with q | q
      · omega
      · have := k2 z q; omega
    · have : a = 0 := by omega
      subst this
      rw [U_zero]
      try simp
theorem nodup_len : ∀ (n : Nat) (l : List Int), l.Nodup → (∀ z, z ∈ l → 0 ≤ z ∧ z < n) → l.length ≤ n
  | 0, l, _, h => by
    cases l with
    | nil => simp
    | cons z r => have := h z (by simp); omega
  | n + 1, l, hn, h => by
    have h1 : (l.filter (· ≠ (n : Int))).length ≤ n := by
      refine nodup_len n _ (hn.filter _) fun z hz => ?_
      simp at hz
      have := h z hz.1
      omega
    have h2 : l.length ≤ (l.filter (· ≠ (n : Int))).length + 1 := by
      clear h h1
      induction l with
      | nil => simp
      | cons z r ih =>
        rw [List.nodup_cons] at hn
        by_cases e : z = (n : Int)
        · subst e
          have : r.filter (· ≠ (n : Int)) = r := List.filter_eq_self.2 fun y hy => by simp; intro q; subst q; exact hn.1 hy
          rw [List.filter_cons_of_neg (by simp), this]
          try simp
        · have := ih hn.2
          simp [e] at this ⊢
          omega
    omega
theorem path_nodup {ys : List Int} {a b : Int} (ha : isT ys a = true) (hb : isT ys b = true) : (pathF ys a b).Nodup := by
  obtain ⟨ok, h7, a0, al⟩ := isT_ok ha
  obtain ⟨_, _, b0, bl⟩ := isT_ok hb
  obtain ⟨x, y, c, m, e⟩ := path_meet ok h7 a0 al b0 bl
  have nd : ∀ {a : Int}, 0 ≤ a → a ≤ ys.length → (upF ys a).Nodup := fun {a} h0 hl => (U_nodup ok a.toNat a (by omega) h0 hl).1.imp fun q => by omega
  -- a broker of both ways to the root lies where they are one
  rw [e]
  obtain ⟨tc, htc⟩ := U_head ok c m.c0 m.cl
  have na := nd a0 al
  have nb := nd b0 bl
  rw [m.ea, List.nodup_append] at na
  rw [m.eb, List.nodup_append] at nb
  rw [List.nodup_append, List.nodup_cons]
  refine ⟨na.1, ⟨fun q => ?_, List.pairwise_reverse.2 (nb.1.imp fun q => q.symm)⟩, fun u hu v hv => ?_⟩
  · exact nb.2.2 c (by simpa using q) c (by rw [htc]; simp) rfl
  · intro q
    subst q
    rcases List.mem_cons.1 hv with q | q
    · subst q
      exact na.2.2 u hu u (by rw [htc]; simp) rfl
    · -- u in x and in y: the rest from u on is one
      have q : u ∈ y := by simpa using q
      obtain ⟨x1, x2, hx⟩ := List.append_of_mem hu
      obtain ⟨y1, y2, hy⟩ := List.append_of_mem q
      have s1 := (U_suffix ok x1 a u (x2 ++ upF ys c) a0 al (by rw [m.ea, hx]; simp)).1
      have s2 := (U_suffix ok y1 b u (y2 ++ upF ys c) b0 bl (by rw [m.eb, hy]; simp)).1
      have e2 := s1.trans s2.symm
      simp at e2
      subst e2
      rcases m.ne with z | z | z
      · rw [hx] at z; simp at z
      · rw [hy] at z; simp at z
      · rw [hx, hy] at z
        simp [List.getLast?_append, List.getLast?_cons] at z
theorem dist_le_len {ys : List Int} {a b : Int} (ha : isT ys a = true) (hb : isT ys b = true) : distF ys a b ≤ ys.length := by
  obtain ⟨ok, h7, a0, al⟩ := isT_ok ha
  obtain ⟨_, _, b0, bl⟩ := isT_ok hb
  have := nodup_len (ys.length + 1) _ (path_nodup ha hb) fun z hz => by
    have := path_mem ok h7 a0 al b0 bl hz
    omega
  rw [distF_path ha hb]
  omega

/-- What is asked of a step on a way. -/
theorem way_step {ys : List Int} {a b u v : Int} {l1 l2 : List Int} (ha : isT ys a = true) (hb : isT ys b = true) (h : pathF ys a b = l1 ++ u :: v :: l2) :
    nextF ys u b = v ∧ v ∈ nearF ys u ∧ distF ys v b = l2.length ∧ nextF ys v a = u ∧ isT ys u = true ∧ isT ys v = true := by
  obtain ⟨ok, h7, a0, al⟩ := isT_ok ha
  obtain ⟨_, _, b0, bl⟩ := isT_ok hb
  have hu := path_mem ok h7 a0 al b0 bl (v := u) (by rw [h]; simp)
  have hv := path_mem ok h7 a0 al b0 bl (v := v) (by rw [h]; simp)
  have tu := isT_of ha hu.1 hu.2
  have tv := isT_of ha hv.1 hv.2
  have r1 := path_right ok h7 a0 al b0 bl h
  have h' : pathF ys a b = (l1 ++ [u]) ++ v :: l2 := by rw [h]; simp
  have r2 := path_right ok h7 a0 al b0 bl h'
  have r3 := path_left ok h7 a0 al b0 bl h'
  have hub : u ≠ b := by
    intro q
    rw [q, path_self ok h7 b0 bl] at r1
    simp at r1
  have nx : nextF ys u b = v := by simp [nextF, tu, hb, hub, r1]
  have r4 := path_symm ok h7 a0 al hv.1 hv.2
  rw [r3] at r4
  have hva : v ≠ a := by
    intro q
    rw [q, path_self ok h7 a0 al] at r3
    have := congrArg List.length r3
    simp at this
  refine ⟨nx, ?_, ?_, ?_, tu, tv⟩
  · have := (next_near tu hb hub).1
    rw [nx] at this
    exact this
  · rw [distF_path tv hb, r2]; simp
  · simp [nextF, tv, ha, hva, r4]

section
variable {X : XTab}

/-- Is it among those that are near? -/
theorem waysFind (hX : OnlyKnown X) {h : Heap} {t : T} {w : AVal} {ns : List Int} {n : Int} (on : Sl intR h w ns) (hl : ns.length ≤ 100) (hn : n ∈ ns) (e13 : t 13 = I n) (e14 : t 14 = w) (e15 : t 15 = .bool false) (e16 : t 16 = I 0) :
    Tells (fun m => loopN (L_precentorlaw9_TreeWays_11 Try.prog (acallX Try.prog X m) m) m t h) fun p g => g = h ∧ p.1 = .exit 2 ∧ p.2 15 = .bool true ∧ ∀ j, j < 14 → p.2 j = t j := by
  refine (Tells.loop (fun m t' g => ∃ i : Nat, t' 14 = w ∧ t' 15 = .bool (decide (n ∈ ns.take i)) ∧ t' 16 = I i ∧ i + m = ns.length ∧ (∀ j, j < 14 → t' j = t j) ∧ g = h) ?_ ns.length _ _ ?_)
  · rintro m t' g ⟨i, e14, e15, e16, hi, ht, rfl⟩
    refine Tells.prot fun Q2 hQ2 => ?_
    have e13' : t' 13 = I n := (ht 13 (by decide)).trans e13
    unfold L_precentorlaw9_TreeWays_11
    simp [e14, e16, on.len]
    refine Tells.cb (fun hc => ?_) (fun hc => ?_)
    · simp at hc
      obtain ⟨y, hy⟩ : ∃ y, ns[i]? = some y := ⟨_, List.getElem?_eq_getElem hc⟩
      obtain ⟨b, p, B, q1, q2, q3⟩ := on.atI hy
      have w : IntKind.i64.wrap ((i : Int) + 1) = i + 1 := wrap_id (by omega) (by omega)
      have htk : ns.take (i + 1) = ns.take i ++ [y] := by rw [List.take_add_one, hy]; rfl
      have frame : ∀ t2 : T, (∀ j, j < 14 → t2 j = t' j) → ∀ j, j < 14 → t2 j = t j := fun t2 h2 j hj => (h2 j hj).trans (ht j hj)
      by_cases hm : n ∈ ns.take i
      · have hm2 : n ∈ ns.take (i + 1) := by rw [htk]; simp [hm]
        simp [J_precentorlaw9_TreeWays_12, e15, hm, J_precentorlaw9_TreeWays_13, e16, w]
        refine Tells.ok (hQ2 _ _ (.inl ⟨rfl, m - 1, by omega, i + 1, by simp [e14], by simp [hm2], by simp, by omega, frame _ fun j hj => ?_, rfl⟩))
        dsimp only
        repeat rw [upd_ne _ _ _ _ (by omega)]
      · have hd : decide (n ∈ ns.take (i + 1)) = (y == n) := by
          rw [htk]
          by_cases q : y = n
          · simp [q]
          · simp [q, hm, Ne.symm q]
        simp [J_precentorlaw9_TreeWays_12, e15, hm, e14, e16, q1, q2, q3, e13', J_precentorlaw9_TreeWays_13, w]
        refine Tells.ok (hQ2 _ _ (.inl ⟨rfl, m - 1, by omega, i + 1, by simp [e14], by simp [hd], by simp, by omega, frame _ fun j hj => ?_, rfl⟩))
        dsimp only
        repeat rw [upd_ne _ _ _ _ (by omega)]
    · simp at hc
      rw [List.take_of_length_le (by omega)] at e15
      refine Tells.ok (hQ2 _ _ (.inr ⟨by simp, rfl, rfl, by simp [e15, hn], fun j hj => ?_⟩))
      rw [← ht j hj]
      dsimp only
      repeat rw [upd_ne _ _ _ _ (by omega)]
  · exact ⟨0, e14, by simp [e15], e16, by omega, fun _ _ => rfl, rfl⟩

theorem treeWays (hX : OnlyKnown X) (hk : X F_precentorlaw9_known [] = some (.bool true)) {h : Heap} {l : AVal} {ls : List Int} (ol : RawInts h l ls) (a0 : Int) (ia : In64 a0) (b0 : Int) (ib : In64 b0) :
    Tells (fun m => acallX Try.prog X m F_precentorlaw9_TreeWays [l, I a0, I b0] h) fun r h' => r = .bool true := by
  refine R_precentorlaw9_TreeWays _ _ _ (hX _ _ rfl) ?_
  refine Tells.prot fun Q' hQ => ?_
  unfold S_precentorlaw9_TreeWays
  simp [bldR, fillR, splice, ol.sl.known, ol.sl.cells]
  refine Tells.box rfl rfl fun h1 bf f1 x1 l1 => ?_
  try simp
  refine Tells.bind (Tree hX 8 ⟨by omega, by omega⟩ (by omega) (RawInts.feed (ol.ext x1) f1) (by omega)) ?_
  rintro v h2 ⟨ys, gy, ok, hlt, _, x2, _⟩
  have hl7 : ys.length ≤ 7 := by have := hlt (by omega); omega
  have oy := gy.1
  have w1 : IntKind.i64.wrap ((ys.length : Int) + 1) = ys.length + 1 := wrap_id (by omega) (by omega)
  simp [oy.len, w1]
  refine Tells.bind (Pick hX a0 _ ⟨by omega, by omega⟩ h2) ?_
  rintro _ h2 ⟨rfl, rfl⟩
  try simp [oy.len, w1]
  refine Tells.bind (Pick hX b0 _ ⟨by omega, by omega⟩ h2) ?_
  rintro _ h2 ⟨rfl, rfl⟩
  have pa := pick_lo a0 (ys.length + 1)
  have pa' := pick_hi a0 (ys.length + 1) (by omega)
  have pb := pick_lo b0 (ys.length + 1)
  have pb' := pick_hi b0 (ys.length + 1) (by omega)
  generalize pick a0 (ys.length + 1) = a at *
  generalize pick b0 (ys.length + 1) = b at *
  have ta := rightT_ok ok hl7 pa (by omega)
  have tb := rightT_ok ok hl7 pb (by omega)
  have ds := dist_symm ta tb
  have dz := dist_zero ta tb
  have dg := distF_ge ta tb
  have dl := dist_le_len ta tb
  have dp := distF_path ta tb
  try simp
  refine Tells.bind (tree_Dist hX oy (by omega) a b) ?_
  rintro _ h3 ⟨rfl, x3⟩
  try simp
  refine Tells.bind (known_X hk h3) ?_
  rintro _ h3 ⟨rfl, rfl⟩
  have oy3 := oy.ext x3
  simp [show ¬ distF ys a b < 0 by omega, oy3.len, show ¬ (ys.length : Int) < distF ys a b by omega]
  refine Tells.bind (tree_Dist hX oy3 (by omega) b a) ?_
  rintro _ h4 ⟨rfl, x4⟩
  have oy4 := oy3.ext x4
  have hz : (distF ys a b == 0) = (a == b) := by
    by_cases q : a = b
    · rw [dz.2 q]; simp [q]
    · rw [beq_eq_false_iff_ne.2 q, beq_eq_false_iff_ne.2 (fun z => q (dz.1 z))]
  simp [← ds, hz, J_precentorlaw9_TreeWays_0]
  obtain ⟨d, hd⟩ : ∃ d : Nat, distF ys a b = d := ⟨(distF ys a b).toNat, by omega⟩
  have hlen : (pathF ys a b).length = d + 1 := by
    have := (upN_len a.toNat ys a).1
    omega
  obtain ⟨hd0, hhd⟩ := path_cons ok hl7 pa (by omega) pb (show b ≤ ys.length by omega)
  generalize hW : pathF ys a b = W at *
  have W0 : W[0]? = some a := by rw [hhd]; rfl
  have split2 : ∀ i : Nat, i < d → ∃ u v l2, W[i]? = some u ∧ W[i + 1]? = some v ∧ W = W.take i ++ u :: v :: l2 ∧ l2.length = d - i - 1 := by
    intro i hi
    refine ⟨W[i], W[i + 1], W.drop (i + 2), List.getElem?_eq_getElem _, List.getElem?_eq_getElem _, ?_, by simp; omega⟩
    conv => lhs; rw [← List.take_append_drop i W, List.drop_eq_getElem_cons (by omega), List.drop_eq_getElem_cons (by omega)]
  refine Tells.lit (r := intR) (xs := [a]) (css := [[I a]]) (by rfl) ⟨rfl, trivial⟩ (by rfl) (by rfl) (bsl1_int _ _ _ _) fun w0 h5 g5 x5 _ => ?_
  have oy5 := oy4.ext x5
  try simp
  refine Tells.bind (Tells.loop (fun n t g => ∃ (i : Nat) (u : Int), t 1 = I a ∧ t 2 = I b ∧ t 8 = v ∧ t 9 = I d ∧ t 10 = I u ∧ t 12 = I i ∧ i + n = d ∧ W[i]? = some u ∧ Gl intR h4 g (t 11) (W.take (i + 1)) ∧ Ext [] h4 g)
    (Q := fun p g => p.1 = .exit 0 ∧ p.2 1 = I a ∧ p.2 2 = I b ∧ p.2 8 = v ∧ p.2 9 = I d ∧ p.2 10 = I b ∧ Gl intR h4 g (p.2 11) W ∧ Ext [] h4 g) ?_ d _ _ ?_) ?_
  · rintro n t g ⟨i, u, t1, t2, t8, t9, t10, t12, hi, hu, go, z⟩
    refine Tells.prot fun Q2 hQ2 => ?_
    unfold L_precentorlaw9_TreeWays_6
    simp [t12, t9]
    refine Tells.cb (fun hc => ?_) (fun hc => ?_)
    · simp at hc
      obtain ⟨u', y, l2, e1, e2, e3, e4⟩ := split2 i hc
      rw [hu] at e1; cases e1
      obtain ⟨s1, s2, s3, s4, tu, ty⟩ := way_step ta tb (hW.trans e3)
      have oyg := oy4.ext z
      simp [J_precentorlaw9_TreeWays_7, t8, t10, t2]
      refine Tells.bind (tree_Next hX oyg (by omega) u b) ?_
      rintro _ g1 ⟨rfl, z1⟩
      try simp
      refine Tells.bind (tree_Near hX (oyg.ext z1) (by omega) u) ?_
      rintro w2 g2 ⟨n2, z2⟩
      have ln := nearF_len ys u
      try simp
      refine Tells.bind (waysFind hX (n := y) n2.1 (by omega) s2 (by simp [s1]) (by simp) (by simp) (by simp)) ?_
      rintro ⟨ex, t'⟩ g2 ⟨rfl, rfl, k15, kt⟩
      simp only at k15 kt
      have z3 := (z.trans z1).trans z2
      have k2 : t' 2 = I b := by rw [kt 2 (by decide)]; simp [t2]
      have k8 : t' 8 = v := by rw [kt 8 (by decide)]; simp [t8]
      have k13 : t' 13 = I y := by rw [kt 13 (by decide)]; simp [s1]
      have k9 : t' 9 = I d := by rw [kt 9 (by decide)]; simp [t9]
      have k12 : t' 12 = I i := by rw [kt 12 (by decide)]; simp [t12]
      have k1 : t' 1 = I a := by rw [kt 1 (by decide)]; simp [t1]
      have k11 : t' 11 = t 11 := by rw [kt 11 (by decide)]; simp
      simp [J_precentorlaw9_TreeWays_9, k15, k8, k13, k2]
      refine Tells.bind (tree_Dist hX (oy4.ext z3) (by omega) y b) ?_
      rintro _ g3 ⟨rfl, z4⟩
      have w2 : IntKind.i64.wrap ((d : Int) - i) = d - i := wrap_id (by omega) (by omega)
      have w3 : IntKind.i64.wrap ((d : Int) - i - 1) = d - i - 1 := wrap_id (by omega) (by omega)
      have e5 : distF ys y b = (d : Int) - i - 1 := by rw [s3, e4]; omega
      have w4 : IntKind.i64.wrap ((i : Int) + 1) = i + 1 := wrap_id (by omega) (by omega)
      simp [k9, k12, w2, w3, e5, J_precentorlaw9_TreeWays_10, k13, k11]
      have g0 := ((go.e z1).e z2).e z4
      refine Tells.app1 g0 (by rfl) (by rfl) (show intR.rep g3 [I y] y from rfl) (by rfl) (by rfl) (by simp; omega) (by decide) (z3.trans z4).next fun s6 h6 g6 x6 y6 _ => ?_
      simp [J_precentorlaw9_TreeWays_8, k12, w4]
      refine Tells.ok (hQ2 _ _ (.inl ⟨rfl, n - 1, by omega, i + 1, y, by simp [k1], by simp [k2], by simp [k8], by simp [k9], by simp, by simp, by omega, e2, ?_, y6 [] (z3.trans z4)⟩))
      have : W.take (i + 1 + 1) = W.take (i + 1) ++ [y] := by rw [List.take_add_one, e2]; rfl
      rw [this]
      simpa using g6
    · simp at hc
      have hid : i = d := by omega
      subst hid
      rw [List.take_of_length_le (by omega)] at go
      refine Tells.ok (hQ2 _ _ (.inr ⟨by simp, rfl, by simp [t1], by simp [t2], by simp [t8], by simp [t9], ?_, by simpa using go, z⟩))
      -- the last one of the way is b
      have hb : W[i]? = some b := by
        have h1 := path_symm ok hl7 pa (show a ≤ ys.length by omega) pb (show b ≤ ys.length by omega)
        obtain ⟨t2, ht2⟩ := path_cons ok hl7 pb (show b ≤ ys.length by omega) pa (show a ≤ ys.length by omega)
        rw [hW, ht2] at h1
        have h2 := congrArg List.reverse h1
        rw [List.reverse_reverse] at h2
        have h3 := congrArg List.length h2
        simp at h3
        rw [← h2]
        try simp
        rw [List.getElem?_append_right (by simp; omega)]
        simp [show i - t2.length = 0 by omega]
      rw [hb] at hu
      cases hu
      simp [t10]
  · refine ⟨0, a, by simp, by simp, by simp, by simp [hd], by simp, by simp, by omega, W0, ?_, x5⟩
    rw [hhd]
    simpa using g5
  · rintro ⟨ex, t⟩ g ⟨rfl, t1, t2, t8, t9, t10, go, z⟩
    simp only at t1 t2 t8 t9 t10 go
    simp [J_precentorlaw9_TreeWays_1]
    refine Tells.bind (Tells.loop (fun n t' g' => t' 1 = I a ∧ t' 2 = I b ∧ t' 8 = v ∧ t' 10 = I b ∧ t' 11 = t 11 ∧ t' 17 = I n ∧ n ≤ d ∧ Ext [] g g')
      (Q := fun p g' => p.1 = .exit 4 ∧ p.2 2 = I b ∧ p.2 8 = v ∧ p.2 10 = I b ∧ Ext [] g g') ?_ d _ _ ?_) ?_
    · rintro n t' g' ⟨k1, k2, k8, k10, k11, k17, hn, y⟩
      refine Tells.prot fun Q2 hQ2 => ?_
      unfold L_precentorlaw9_TreeWays_3
      by_cases hc : 0 < n
      · have hc' : (0 : Int) < n := by omega
        obtain ⟨i, rfl⟩ : ∃ i, n = i + 1 := ⟨n - 1, by omega⟩
        obtain ⟨u, w, l2, e1, e2, e3, e4⟩ := split2 i (by omega)
        obtain ⟨s1, s2, s3, s4, tu, tw⟩ := way_step ta tb (hW.trans e3)
        have og := go.1.ext y
        obtain ⟨b1, p1, B1, q1, q2, q3⟩ := og.atI e2
        have e5 : ((i + 1 : Nat) : Int) = (i : Int) + 1 := by omega
        rw [e5] at q1
        simp [k17, J_precentorlaw9_TreeWays_4, k8, k11, q1, q2, q3, k1]
        refine Tells.cbE (tree_Next hX ((oy4.ext z).ext y) (by omega) w a) ?_
        rintro _ g3 ⟨rfl, y3⟩
        obtain ⟨b2, p2, B2, r1, r2, r3⟩ := og.atI e1
        have og3 := og.ext y3
        obtain ⟨b3, p3, B3, r1', r2', r3'⟩ := og3.atI e1
        have jj := r1.symm.trans r1'
        cases jj
        have w5 : IntKind.i64.wrap (i : Int) = i := wrap_id (by omega) (by omega)
        simp [k17, k11, w5, r1, r2', r3', r2, r3, s4, J_precentorlaw9_TreeWays_5]
        exact Tells.ok (hQ2 _ _ (.inl ⟨rfl, i, by omega, by simp [k1], by simp [k2], by simp [k8], by simp [k10], by simp [k11], by simp, by omega, y.trans y3⟩))
      · have : n = 0 := by omega
        subst this
        simp [k17]
        exact Tells.ok (hQ2 _ _ (.inr ⟨by simp, rfl, by simp [k2], by simp [k8], by simp [k10], y⟩))
    · exact ⟨by simp [t1], by simp [t2], by simp [t8], by simp [t10], by simp, by simp [t9], Nat.le_refl _, .refl⟩
    · rintro ⟨ex, t'⟩ g' ⟨rfl, k2, k8, k10, y⟩
      simp only at k2 k8 k10
      simp [J_precentorlaw9_TreeWays_2, k2, k8, k10]
      refine Tells.bind (tree_Next hX ((oy4.ext z).ext y) (by omega) b b) ?_
      rintro _ g3 ⟨rfl, y3⟩
      have : nextF ys b b = -1 := by simp [nextF]
      simp [this]
      exact Tells.ok (hQ _ _ rfl)
end
end Go.Proofs.Ythachecebkmlaaa
