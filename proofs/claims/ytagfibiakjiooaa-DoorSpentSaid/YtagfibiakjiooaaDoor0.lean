/-
  What door.New, Offer and Waiting tell (of a door at which nothing is on its way, for events without attributes).
-/
import Derived.Test.YtagfibiakjiooaaConfig0a
import Derived.Test.YtagfibiakjiooaaCell0
import Derived.Test.YtagfibiakjiooaaSattr
import Derived.Test.YtagfibiakjiooaaSdoor
set_option linter.unusedVariables false
set_option linter.unusedSimpArgs false
namespace Go.Proofs.Ytagfibiakjiooaa
open Go.Ab

abbrev evR := cellR 7 (by decide)

def dC (s : Int) (L : List Int) (W : AVal) : List AVal := [.nils, I 1, I 1, I 8, I 2, I s, I 2] ++ (L.map I ++ [W, .nils])
theorem dC_len (s : Int) (L : List Int) (W : AVal) : (dC s L W).length = 9 + L.length := by simp [dC]; omega
theorem dC_3 (s : Int) (L : List Int) (W : AVal) : (dC s L W)[3]? = some (I 8) := rfl
theorem dC_6 (s : Int) (L : List Int) (W : AVal) : (dC s L W)[6]? = some (I 2) := rfl
theorem dC_at {s : Int} {L : List Int} {W : AVal} {c : Nat} {v : Int} (h : L[c]? = some v) : (dC s L W)[7 + c]? = some (I v) := by
  have hc := (List.getElem?_eq_some_iff.1 h).1
  unfold dC
  rw [List.getElem?_append_right (by simp)]
  simp only [List.length_cons, List.length_nil]
  rw [show 7 + c - (0 + 1 + 1 + 1 + 1 + 1 + 1 + 1) = c by omega, List.getElem?_append_left (by simpa using hc), List.getElem?_map, h]
  rfl
theorem dC_W {s : Int} {L : List Int} {W : AVal} (h : L.length = 7) : (dC s L W)[14]? = some W := by
  unfold dC
  rw [List.getElem?_append_right (by simp), List.getElem?_append_right (by simp; omega)]
  simp [h]
theorem dC_set {s : Int} {L : List Int} {W : AVal} {c : Nat} {v : Int} (h : c < L.length) : (dC s L W).set (7 + c) (I v) = dC s (L.set c v) W := by
  unfold dC
  rw [List.set_append_right _ _ (by simp)]
  simp only [List.length_cons, List.length_nil]
  rw [show 7 + c - (0 + 1 + 1 + 1 + 1 + 1 + 1 + 1) = c by omega, List.set_append_left _ _ (by simpa using h), List.map_set]
theorem dC_setW {s : Int} {L : List Int} {W W' : AVal} (h : L.length = 7) : (dC s L W).set 14 W' = dC s L W' := by
  unfold dC
  rw [List.set_append_right _ _ (by simp), List.set_append_right _ _ (by simp; omega)]
  simp [h]

section
variable {X : XTab}

theorem attr_Right_nil (hX : OnlyKnown X) (h : Heap) : Tells (fun q => acallX Try.prog X q F_attr_Right [.nils] h) fun r h' => r = .bool true ∧ h' = h := by
  refine R_attr_Right _ (hX _ _ rfl) ?_
  refine Tells.prot fun Q' hQ => ?_
  unfold S_attr_Right
  simp [J_attr_Right_0]
  refine Tells.bind (Tells.loop (fun n t g => t 9 = I 0 ∧ t 10 = I 0 ∧ g = h) (Q := fun p g => p.1 = .exit 0 ∧ g = h) ?_ 0 _ _ ?_) ?_
  · rintro n t g ⟨t9, t10, rfl⟩
    refine Tells.prot fun Q2 hQ2 => ?_
    unfold L_attr_Right_2
    simp [t9, t10]
    exact Tells.ok (hQ2 _ _ (.inr ⟨by simp, rfl, rfl⟩))
  · exact ⟨by simp, by simp, rfl⟩
  · rintro ⟨ex, t⟩ g ⟨rfl, rfl⟩
    simp [J_attr_Right_1]
    exact Tells.ok (hQ _ _ ⟨rfl, rfl⟩)

theorem attr_Copy_nil (hX : OnlyKnown X) (h : Heap) : Tells (fun q => acallX Try.prog X q F_attr_Copy [.nils] h) fun r h' => r = .nils ∧ h' = h := by
  refine R_attr_Copy _ (hX _ _ rfl) ?_
  unfold S_attr_Copy
  simp [appR, aSource]
  exact Tells.ok ⟨rfl, rfl⟩

theorem door_New (hX : OnlyKnown X) {h : Heap} {v : AVal} (o : Sl intR h v [0, 0]) {s : Int} (s0 : 0 ≤ s) (s1 : s ≤ 4611686018427387904) :
    Tells (fun q => acallX Try.prog X q F_door_New [.agg [v, I 1, I 1, I 8, I 2, I s], I 2] h) fun r h' => ∃ bd, r = .tup [.ptr bd 0, I 0] ∧ Ob h' bd (dC s (List.replicate 7 s) .nils) ∧ Ext [] h h' ∧ h.next ≤ bd := by
  refine R_door_New _ _ (hX _ _ rfl) ?_
  refine Tells.prot fun Q' hQ => ?_
  have hr : rightT [0, 0] = true := by decide
  have hg : good 1 1 8 2 s := by unfold good; omega
  have he : errC [0, 0] 1 1 8 2 s = 0 := errC_0 hr hg
  have hb : nB [0, 0] 1 1 8 2 s = 3 := by unfold nB; rw [he]; rfl
  unfold S_door_New
  try simp
  refine Tells.box rfl rfl fun h1 bc oc x1 l1 => ?_
  have oc : Ob h1 bc [v, I 1, I 1, I 8, I 2, I s] := by simpa using oc
  simp [oc.1]
  refine Tells.bind (Check hX (o.ext x1) (by decide) 1 1 8 2 s) ?_
  rintro _ h2 ⟨rfl, x2⟩
  have oc2 := oc.e x2
  simp [he, J_door_New_0, oc2.1]
  refine Tells.bind (Brokers hX ((o.ext x1).ext x2) (by decide) 1 1 8 2 s) ?_
  rintro _ h3 ⟨rfl, x3⟩
  have oc3 := oc2.e x3
  simp [hb, J_door_New_1]
  refine Tells.st1 oc3 (by rfl) (by rfl) (by simp) fun h4 oc4 x4 => ?_
  have oc4 : Ob h4 bc [.nils, I 1, I 1, I 8, I 2, I s] := by simpa using oc4
  simp [oc4.1, bldR, fillR, splice]
  refine Tells.box rfl rfl fun h5 bd od x5 l5 => ?_
  have hne : bd ≠ bc := fun q => by have := oc4.lt; omega
  have xx : Ext [] h h5 := ((x1.trans x2).trans x3).then (x4.quiet x5) fun b hb => .inr (by simp at hb; omega)
  have oc5 := oc4.e x5
  have l5' : h.next ≤ bd := by have := ((x1.trans x2).trans x3).next; have := x4.next; omega
  try simp
  refine Tells.bind (Tells.loop (fun n t g => ∃ i : Nat, t 2 = .ptr bc 0 ∧ t 7 = .ptr bd 0 ∧ t 27 = I i ∧ i + n = 7 ∧ Ob g bc [.nils, I 1, I 1, I 8, I 2, I s] ∧ Ob g bd (dC s (List.replicate i s ++ List.replicate (7 - i) 0) .nils) ∧ Ext [] h g)
    (Q := fun p g => p.1 = .exit 0 ∧ p.2 7 = .ptr bd 0 ∧ Ob g bd (dC s (List.replicate 7 s) .nils) ∧ Ext [] h g) ?_ 7 _ _ ?_) ?_
  · rintro n t g ⟨i, t2, t7, t27, hi, oc, od, x⟩
    refine Tells.prot fun Q2 hQ2 => ?_
    unfold L_door_New_3
    by_cases hc : i < 7
    · have hc' : (i : Int) < 7 := by omega
      have w : IntKind.i64.wrap ((i : Int) + 1) = i + 1 := wrap_id (by omega) (by omega)
      have hp : ixpR 7 1 (.ptr bd 7) (.int .i64 (i : Int)) = some (.ptr bd (7 + i)) := by have := ixp_at (len := 7) (z := 1) (b := bd) (o := 7) hc; rwa [Nat.mul_one] at this
      simp [t27, hc', J_door_New_4, t7, t2, oc.1, hp]
      refine Tells.st1E od (by rfl) (by rfl) (by rw [dC_len]; simp; omega) fun g2 od2 x2 => ?_
      rw [dC_set (by simp; omega)] at od2
      simp [J_door_New_5, t27, w]
      refine Tells.ok (hQ2 _ _ (.inl ⟨rfl, n - 1, by omega, i + 1, by simp [t2], by simp [t7], by simp, by omega, oc.ext x2 (by simpa using hne.symm), ?_, x.then x2 fun b hb => .inr (by simp at hb; omega)⟩))
      have : (List.replicate i s ++ List.replicate (7 - i) 0).set i s = List.replicate (i + 1) s ++ List.replicate (7 - (i + 1)) 0 := by
        have : i = 0 ∨ i = 1 ∨ i = 2 ∨ i = 3 ∨ i = 4 ∨ i = 5 ∨ i = 6 := by omega
        rcases this with rfl | rfl | rfl | rfl | rfl | rfl | rfl <;> rfl
      rw [← this]
      exact od2
    · have hc' : ¬ (i : Int) < 7 := by omega
      have : i = 7 := by omega
      subst this
      simp [t27]
      exact Tells.ok (hQ2 _ _ (.inr ⟨by simp, rfl, by simp [t7], by simpa using od, x⟩))
  · exact ⟨0, by simp, by simp, by simp, by omega, oc5, by simpa [dC] using od, xx⟩
  · rintro ⟨ex, t⟩ g ⟨rfl, t7, od, x⟩
    simp only at t7
    simp [J_door_New_2, t7]
    exact Tells.ok (hQ _ _ ⟨bd, rfl, od, x, l5'⟩)

theorem door_Waiting (hX : OnlyKnown X) {h : Heap} {bd : Nat} {s : Int} {L : List Int} {W : AVal} {es : List (List AVal)} (hL : L.length = 7) (o : Ob h bd (dC s L W)) (w : Sl evR h W es) :
    Tells (fun q => acallX Try.prog X q F_door_Door_Waiting [.ptr bd 0] h) fun r h' => r = I es.length ∧ h' = h := by
  refine R_door_Door_Waiting _ (hX _ _ rfl) ?_
  unfold S_door_Door_Waiting
  simp [o.1, dC_W hL, w.len]
  exact Tells.ok ⟨rfl, rfl⟩

theorem door_Offer (hX : OnlyKnown X) {h0 h : Heap} {bd : Nat} {s : Int} {L : List Int} {W : AVal} {es : List (List AVal)} (hL : L.length = 7) (hb : h0.next ≤ bd) (o : Ob h bd (dC s L W)) (g : Gl evR h0 h W es) (he : es.length < 8) (x0 : Ext [] h0 h)
    {c : Nat} (c1 : 1 ≤ c) (c6 : c ≤ 6) {v : Int} (hv : L[c]? = some v) (v0 : 0 ≤ v) :
    Tells (fun q => acallX Try.prog X q F_door_Door_Offer [.ptr bd 0, I c, .nils] h) fun r h' => Ext [] h0 h' ∧
      ((v < 4611686018427387904 ∧ r = .tup [I (v + 1), I 0] ∧ ∃ W' es', es'.length = es.length + 1 ∧ Ob h' bd (dC s (L.set c (v + 1)) W') ∧ Gl evR h0 h' W' es') ∨
       (4611686018427387904 ≤ v ∧ r = .tup [I 0, I 8] ∧ h' = h)) := by
  refine R_door_Door_Offer _ _ _ (hX _ _ rfl) ?_
  refine Tells.prot fun Q' hQ => ?_
  unfold S_door_Door_Offer
  have hp : ixpR 7 1 (.ptr bd 7) (.int .i64 (c : Int)) = some (.ptr bd (7 + c)) := by have := ixp_at (len := 7) (z := 1) (b := bd) (o := 7) (i := c) (by omega); rwa [Nat.mul_one] at this
  simp [show ¬ (c : Int) < 1 by omega, show ¬ (c : Int) > 6 by omega, show ¬ (6 : Int) < c by omega]
  refine Tells.bind (attr_Right_nil hX h) ?_
  rintro _ h ⟨rfl, rfl⟩
  simp [o.1, dC_W hL, g.1.len, dC_3, show ¬ (8 : Int) ≤ es.length by omega, hp, dC_at hv]
  by_cases hm : 4611686018427387904 ≤ v
  · simp [hm]
    exact Tells.ok (hQ _ _ ⟨x0, .inr ⟨hm, rfl, rfl⟩⟩)
  · have w : IntKind.i64.wrap (v + 1) = v + 1 := wrap_id (by omega) (by omega)
    simp [hm, J_door_Door_Offer_0, hp, o.1, dC_at hv, w]
    refine Tells.st1E o (by rfl) (by rfl) (by rw [dC_len]; omega) fun h1 o1 x1 => ?_
    rw [dC_set (by omega)] at o1
    have g1 := g.extO x1 (by simpa using .inl o.2.1)
    have hv1 : (L.set c (v + 1))[c]? = some (v + 1) := by rw [List.getElem?_set_self (by omega)]
    have hL1 : (L.set c (v + 1)).length = 7 := by simpa using hL
    have x01 : Ext [] h0 h1 := x0.then x1 fun b hb' => .inr (by simp at hb'; omega)
    simp [o1.1, dC_W hL1, dC_6, hp, dC_at hv1]
    refine Tells.cbE (attr_Copy_nil hX h1) ?_
    rintro _ h1 ⟨rfl, rfl⟩
    simp [o1.1, dC_W hL1, dC_6, hp, dC_at hv1, bldR, fillR, splice]
    refine Tells.app1E g1 (by rfl) (by rfl) (show evR.rep h1 [I c, I 2, I (v + 1), I 0, I 0, .nils, .nils] _ from ⟨rfl, rfl, rfl⟩) (by rfl) (by rfl) (by omega) (by decide) x01.next fun W' h2 g2 x2 y2 z2 => ?_
    have ob2 := o1.ext x2 (fun q => by have := g1.1.ob o1; exact this q)
    have y02 := y2 [] x01
    try simp
    refine Tells.st1E ob2 g2.1.cells g2.1.one (by rw [dC_len]; omega) fun h3 o3 x3 => ?_
    rw [dC_setW hL1] at o3
    have g3 := g2.extO x3 (by simpa using .inl ob2.2.1)
    simp [hp, o3.1, dC_at hv1]
    exact Tells.ok (hQ _ _ ⟨y02.then x3 fun b hb' => .inr (by simp at hb'; omega), .inl ⟨by omega, rfl, W', _, by simp, o3, g3⟩⟩)
end
end Go.Proofs.Ytagfibiakjiooaa
