/-
  Law DoorSpent: the walk.
-/
import Derived.Test.YtagfibiakjiooaaDoor0
import Derived.Test.YtagfibiakjiooaaKnown0
import Derived.Test.YtagfibiakjiooaaHandP
import Derived.Test.YtagfibiakjiooaaRow0
import Derived.Test.YtagfibiakjiooaaSprecentorlaw20
set_option linter.unusedVariables false
set_option linter.unusedSimpArgs false
namespace Go.Proofs.Ytagfibiakjiooaa
open Go.Ab

section
variable {X : XTab}

theorem law_config (hX : OnlyKnown X) (h : Heap) : Tells (fun q => acallX Try.prog X q F_precentorlaw20_config [] h) fun r h' => ∃ v, r = .agg [v, I 1, I 1, I 3, I 2, I 0] ∧ Sl intR h' v [0, 0] ∧ Ext [] h h' := by
  refine R_precentorlaw20_config (hX _ _ rfl) ?_
  refine Tells.prot fun Q' hQ => ?_
  unfold S_precentorlaw20_config
  try simp
  refine Tells.new fun h1 bc oc x1 l1 => ?_
  try simp
  refine Tells.lit (r := intR) (xs := [0, 0]) (css := [[I 0], [I 0]]) (by rfl) ⟨rfl, rfl, trivial⟩ (by rfl) (by rfl) (by rfl) fun v h2 g2 x2 _ => ?_
  have oc2 := oc.e x2
  try simp [bldR, fillR, splice, g2.1.known, g2.1.cells]
  refine Tells.stN oc2 (ds := [v, I 1, I 1, I 3, I 2, I 0]) (by rfl) (by rfl) (by simp [g2.1.one]) (by rfl) fun h3 o3 x3 => ?_
  simp [C_precentorlaw20_config_0, o3.1]
  exact Tells.ok (hQ _ _ ⟨v, rfl, g2.1.ext x3, (x1.trans x2).then x3 fun b hb => .inr (by simp at hb; omega)⟩)

theorem spent (hX : OnlyKnown X) (hk : X F_precentorlaw20_known [] = some (.bool true)) {h : Heap} (a0 : Int) (ia : In64 a0) (b0 : Int) (ib : In64 b0) (c0 : Int) (ic : In64 c0) :
    Tells (fun m => acallX Try.prog X m F_precentorlaw20_DoorSpent [I a0, I b0, I c0] h) fun r h' => r = .bool true := by
  refine R_precentorlaw20_DoorSpent _ _ _ (hX _ _ rfl) ?_
  refine Tells.prot fun Q' hQ => ?_
  unfold S_precentorlaw20_DoorSpent
  try simp
  refine Tells.bind (Pick hX a0 4 ⟨by decide, by decide⟩ h) ?_
  rintro _ h ⟨rfl, rfl⟩
  try simp
  refine Tells.bind (Pick hX b0 6 ⟨by decide, by decide⟩ h) ?_
  rintro _ h ⟨rfl, rfl⟩
  have p1 := pick_lo a0 4
  have p2 := pick_hi a0 4 (by decide)
  have p3 := pick_lo b0 6
  have p4 := pick_hi b0 6 (by decide)
  have p5 := pick_lo c0 5
  have p6 := pick_hi c0 5 (by decide)
  have w1 : IntKind.i64.wrap (1 + pick b0 6) = 1 + pick b0 6 := wrap_id (by omega) (by omega)
  try simp [w1]
  refine Tells.bind (Pick hX c0 5 ⟨by decide, by decide⟩ h) ?_
  rintro _ h ⟨rfl, rfl⟩
  generalize pick a0 4 = left at *
  generalize pick b0 6 = cl at *
  generalize pick c0 5 = ot at *
  have w2 : IntKind.i64.wrap (1 + cl + ot) = 1 + cl + ot := wrap_id (by omega) (by omega)
  have m0 : 0 ≤ (1 + cl + ot).tmod 6 := Int.tmod_nonneg _ (by omega)
  have m1 : (1 + cl + ot).tmod 6 < 6 := Int.tmod_lt_of_pos _ (by omega)
  have w3 : IntKind.i64.wrap (1 + (1 + cl + ot).tmod 6) = 1 + (1 + cl + ot).tmod 6 := wrap_id (by omega) (by omega)
  have rem : ∀ t x y, aBin Try.prog .rem t x y (I (1 + cl + ot)) (I 6) = some (I ((1 + cl + ot).tmod 6)) := fun t x y => aBin_rem _ _ _ _ _ _ _ (by decide)
  try simp [w2, rem, w3]
  obtain ⟨n, rfl⟩ : ∃ n : Nat, left = n := ⟨left.toNat, by omega⟩
  obtain ⟨c, hc⟩ : ∃ c : Nat, 1 + cl = c := ⟨(1 + cl).toNat, by omega⟩
  obtain ⟨d, hd⟩ : ∃ d : Nat, 1 + (1 + cl + ot).tmod 6 = d := ⟨(1 + (1 + cl + ot).tmod 6).toNat, by omega⟩
  rw [hc] at hd m0 m1
  simp only [hc, hd]
  have hc1 : 1 ≤ c ∧ c ≤ 6 := by omega
  have hd1 : 1 ≤ d ∧ d ≤ 6 := by omega
  refine Tells.bind (law_config hX h) ?_
  rintro _ h1 ⟨v, rfl, ov, x1⟩
  refine Tells.newSt (ds := [v, I 1, I 1, I 3, I 2, I 0]) (by rfl) (by rfl) (by rfl) (by simp [ov.one]) fun h2 bc oc x2 l2 => ?_
  have w4 : IntKind.i64.wrap (4611686018427387904 - (n : Int)) = 4611686018427387904 - n := wrap_id (by omega) (by omega)
  try simp
  refine Tells.st1 oc (by rfl) (by rfl) (by simp) fun h3 oc3 x3 => ?_
  try simp [w4]
  refine Tells.st1 oc3 (by rfl) (by rfl) (by simp) fun h4 oc4 x4 => ?_
  have oc4 : Ob h4 bc [v, I 1, I 1, I 8, I 2, I (4611686018427387904 - n)] := by simpa using oc4
  have ov4 := ((ov.ext x2).ext x3).ext x4
  have x24 : Ext [] h1 h4 := (x2.then x3 fun b hb => .inr (by simp at hb; omega)).then x4 fun b hb => .inr (by simp at hb; omega)
  simp [oc4.1]
  refine Tells.bind (door_New hX ov4 (s := 4611686018427387904 - n) (by omega) (by omega)) ?_
  rintro _ h5 ⟨bd, rfl, od, x5, l5⟩
  have oc5 := oc4.e x5
  simp
  refine Tells.bind (known_X hk h5) ?_
  rintro _ h5 ⟨rfl, rfl⟩
  simp [ptr_nil Try.underlying27, J_precentorlaw20_DoorSpent_0]
  have hs0 : (0 : Int) ≤ 4611686018427387904 - n := by omega
  have hL0 : ∀ j : Nat, j ≤ 6 → (List.replicate 7 ((4611686018427387904 : Int) - n))[j]? = some ((4611686018427387904 : Int) - n) := fun j hj => by
    rw [List.getElem?_replicate, if_pos (by omega)]
  generalize hS : (4611686018427387904 : Int) - n = s at *
  refine Tells.bind (Tells.loop (fun m t g => ∃ (k : Nat) (L : List Int) (W : AVal) (es : List (List AVal)), t 0 = I n ∧ t 1 = I c ∧ t 2 = I d ∧ t 7 = .ptr bc 0 ∧ t 8 = .ptr bd 0 ∧ t 10 = I (k + 1 : Nat) ∧ k + m = n ∧ Ob g bc [v, I 1, I 1, I 8, I 2, I s] ∧ Ob g bd (dC s L W) ∧ L.length = 7 ∧ L[c]? = some (s + k) ∧
      (∀ j : Nat, j ≤ 6 → j ≠ c → L[j]? = some s) ∧ Gl evR h4 g W es ∧ es.length = k ∧ Ext [] h4 g)
    (Q := fun p g => p.1 = .exit 0 ∧ ∃ (L : List Int) (W : AVal) (es : List (List AVal)), p.2 0 = I n ∧ p.2 1 = I c ∧ p.2 2 = I d ∧ p.2 7 = .ptr bc 0 ∧ p.2 8 = .ptr bd 0 ∧ Ob g bc [v, I 1, I 1, I 8, I 2, I s] ∧ Ob g bd (dC s L W) ∧ L.length = 7 ∧ L[c]? = some (s + n) ∧
      (∀ j : Nat, j ≤ 6 → j ≠ c → L[j]? = some s) ∧ Gl evR h4 g W es ∧ es.length = n ∧ Ext [] h4 g) ?_ n _ _ ?_) ?_
  · rintro m t g ⟨k, L, W, es, t0, t1, t2, t7, t8, t10, hkm, oc, od, hL, hc', hj, gw, he, x⟩
    refine Tells.prot fun Q2 hQ2 => ?_
    unfold L_precentorlaw20_DoorSpent_4
    by_cases hkn : k < n
    · have h1 : ((k + 1 : Nat) : Int) ≤ n := by omega
      simp [t10, t0, show (k : Int) + 1 ≤ n by omega, J_precentorlaw20_DoorSpent_5, t8, t1]
      refine Tells.bind (door_Offer hX hL l5 od gw (by omega) x hc1.1 hc1.2 hc' (by omega)) ?_
      rintro _ g2 ⟨x2, ⟨q1, rfl, W', es', q2, od2, gw2⟩ | ⟨q1, _⟩⟩
      · have w5 : IntKind.i64.wrap (s + ((k : Int) + 1)) = s + (k + 1) := wrap_id (by omega) (by omega)
        have w6 : IntKind.i64.wrap ((k : Int) + 1 + 1) = (k + 1 : Nat) + 1 := by rw [wrap_id (by omega) (by omega)]; omega
        have oc2 : Ob g2 bc [v, I 1, I 1, I 8, I 2, I s] := oc4.e x2
        have e5 : s + (k : Int) + 1 = s + (k + 1) := by omega
        simp [t7, oc2.1, t10, w5, e5, J_precentorlaw20_DoorSpent_6, w6]
        refine Tells.ok (hQ2 _ _ (.inl ⟨rfl, m - 1, by omega, k + 1, L.set c (s + k + 1), W', es', by simp [t0], by simp [t1], by simp [t2], by simp [t7], by simp [t8], by simp, by omega, oc2, od2, by simpa using hL, ?_, fun j h1 h2 => ?_, gw2, by omega, x2⟩))
        · rw [List.getElem?_set_self (by omega)]; simp; omega
        · rw [List.getElem?_set_ne (Ne.symm h2)]; exact hj j h1 h2
      · omega
    · have : k = n := by omega
      subst this
      simp [t10, t0, show ¬ (k : Int) + 1 ≤ k by omega]
      exact Tells.ok (hQ2 _ _ (.inr ⟨by simp, rfl, L, W, es, by simp [t0], by simp [t1], by simp [t2], by simp [t7], by simp [t8], oc, od, hL, hc', hj, gw, he, x⟩))
  · exact ⟨0, _, .nils, [], by simp, by simp, by simp, by simp, by simp, by simp, by omega, oc5, od, by simp, by simpa using hL0 c hc1.2, fun j h1 _ => hL0 j h1, Gl.nil, rfl, x5⟩
  · rintro ⟨ex, t⟩ g ⟨rfl, L, W, es, t0, t1, t2, t7, t8, oc, od, hL, hc', hj, gw, he, x⟩
    simp only at t0 t1 t2 t7 t8
    have hb4 : h4.next ≤ bd := l5
    simp [J_precentorlaw20_DoorSpent_1, t8, t1]
    refine Tells.bind (door_Offer hX hL hb4 od gw (by omega) x hc1.1 hc1.2 hc' (by omega)) ?_
    rintro _ g2 ⟨x2, ⟨q1, _⟩ | ⟨q1, rfl, rfl⟩⟩
    · omega
    · simp
      refine Tells.bind (door_Waiting hX hL od gw.1) ?_
      rintro _ g2 ⟨rfl, rfl⟩
      simp [t0, he, J_precentorlaw20_DoorSpent_2, t2, t1]
      by_cases hdc : d = c
      · simp [hdc]
        exact Tells.ok (hQ _ _ rfl)
      · have hb : ((d : Int) == (c : Int)) = false := beq_eq_false_iff_ne.2 (by omega)
        simp [hb, hdc, J_precentorlaw20_DoorSpent_3, t8, t2]
        refine Tells.bind (door_Offer hX hL hb4 od gw (by omega) x hd1.1 hd1.2 (hj d hd1.2 hdc) hs0) ?_
        rintro _ g3 ⟨x3, ⟨q2, rfl, W', es', _, od3, gw3⟩ | ⟨q2, rfl, rfl⟩⟩
        · have oc3 : Ob g3 bc [v, I 1, I 1, I 8, I 2, I s] := oc4.e x3
          have w7 : IntKind.i64.wrap (s + 1) = s + 1 := wrap_id (by omega) (by omega)
          have hn : 0 < n := by omega
          simp [t0, t7, oc3.1, w7, hn]
          exact Tells.ok (hQ _ _ rfl)
        · have hn : n = 0 := by omega
          subst hn
          simp [t0]
          exact Tells.ok (hQ _ _ rfl)
end
end Go.Proofs.Ytagfibiakjiooaa
