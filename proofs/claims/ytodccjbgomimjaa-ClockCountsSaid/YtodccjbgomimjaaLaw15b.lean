/-
  Law ClockCounts: the walk, and its end.
-/
import Derived.Test.YtodccjbgomimjaaLaw15a
set_option linter.unusedVariables false
set_option linter.unusedSimpArgs false
namespace Go.Proofs.Ytodccjbgomimjaa
open Go.Ab

section
variable {X : XTab}

/-- What holds after i rounds. -/
structure CInv (i : Nat) (t : T) (g : Heap) (bf bc bh : Nat) (v : AVal) (c : Slots) (hs : List Int) : Prop where
  t3 : t 3 = .ptr bf 0
  t4 : t 4 = .ptr bc 0
  t5 : t 5 = .ptr bh 0
  ne : bf ≠ bc ∧ bf ≠ bh ∧ bc ≠ bh
  oc : Ob g bc [v]
  oh : Ob g bh (hs.map I)
  sl : Sl pairR g v c
  lc : c.length ≤ 3
  lh : hs.length = 6
  f : Feed g bf (18 * i)
  own : ∀ p, has c p = own6 p
  num : ∀ p : Nat, p < 6 → has c p = true → nxt c p = hv hs p + 1
  sm : Small c (1 + 6 * i)
  lo : ∀ p, 0 ≤ hv hs p
  hi : ∀ p, hv hs p ≤ 6 * i

theorem hv_out {hs : List Int} (h : hs.length = 6) {p : Nat} (hp : ¬ p < 6) : hv hs p = 0 := by
  unfold hv; rw [List.getElem?_eq_none (by omega)]; rfl

theorem has134 (p : Int) : has [(1, 1), (3, 1), (4, 1)] p = own6 p := by
  unfold has own6
  by_cases h1 : p = 1
  · subst h1; rfl
  by_cases h3 : p = 3
  · subst h3; rfl
  by_cases h4 : p = 4
  · subst h4; rfl
  rw [show ∀ a : Int, (List.any [((1 : Int), (1 : Int)), (3, 1), (4, 1)] fun x => x.1 == a) = (1 == a || (3 == a || (4 == a || false))) from fun _ => rfl]
  rw [beq_eq_false_iff_ne.2 h1, beq_eq_false_iff_ne.2 h3, beq_eq_false_iff_ne.2 h4, beq_eq_false_iff_ne.2 (Ne.symm h1), beq_eq_false_iff_ne.2 (Ne.symm h3), beq_eq_false_iff_ne.2 (Ne.symm h4)]
  rfl
theorem hv0 : ∀ p : Nat, hv [0, 0, 0, 0, 0, 0] p = 0
  | 0 => rfl
  | 1 => rfl
  | 2 => rfl
  | 3 => rfl
  | 4 => rfl
  | 5 => rfl
  | n + 6 => rfl

theorem countsStep (hX : OnlyKnown X) {Q : Ex × T → Heap → Prop} {i : Nat} {t : T} {g : Heap} {bf bc bh : Nat} {v : AVal} {c : Slots} {hs : List Int} (t6 : t 6 = I i) (hi : i < 20) (o : CInv i t g bf bc bh v c hs)
    (hQ : ∀ (t' : T) g' v' c' hs', t' 6 = I ((i + 1 : Nat) : Int) → CInv (i + 1) t' g' bf bc bh v' c' hs' → Q (.normal, t') g') :
    Tells (fun m => L_precentorlaw15_ClockCounts_1 Try.prog (acallX Try.prog X m) m t g) Q := by
  obtain ⟨ne1, ne2, ne3⟩ := o.ne
  have wi : IntKind.i64.wrap ((i : Int) + 1) = i + 1 := wrap_id (by omega) (by omega)
  have hb : ∀ p, 0 ≤ hv hs p ∧ hv hs p ≤ 200 := fun p => by have := o.lo p; have := o.hi p; omega
  unfold L_precentorlaw15_ClockCounts_1
  simp [t6, show (i : Int) < 20 by omega, J_precentorlaw15_ClockCounts_2]
  refine Tells.bind (countsInner hX (bc := bc) (i := I i) (by simp [o.t3]) (by simp [o.t4]) (by simp [o.t5]) (by simp [t6]) (by simp) (by simp) (by simp) o.oh o.lh o.f (by omega) o.own o.num hb (Ne.symm ne2)) ?_
  rintro ⟨ex, t1⟩ h1 ⟨rfl, e3, e4, e5, e6, l, sl1, ll, e8, hx, x1, f1⟩
  simp only at e3 e4 e5 e6 sl1 e8
  have oc1 := o.oc.ext x1 (by simpa using Ne.symm ne1)
  have oh1 := o.oh.ext x1 (by simpa using Ne.symm ne2)
  have s1 := o.sl.ext x1
  have lc := o.lc
  simp [J_precentorlaw15_ClockCounts_4, e4, oc1.1]
  refine Tells.bind (clock_Due hX s1 (by omega) sl1 (by omega)) ?_
  rintro _ h2 ⟨rfl, x2⟩
  have oc2 := oc1.e x2
  simp [e8, Try.underlying4, J_precentorlaw15_ClockCounts_5, e4, oc2.1]
  refine Tells.bind (clock_Take hX (s1.ext x2) (by omega) (sl1.ext x2) (by omega) (K := 1 + 6 * i) ⟨by omega, by omega⟩ o.sm) ?_
  rintro _ h3 ⟨v', rfl, s3, x3⟩
  have x13 := x2.trans x3
  try simp [e4]
  refine Tells.stN (oc2.e x3) (by rfl) (by rfl) (by simp [s3.one]) (by rfl) fun h4 o4 x4 => ?_
  have s4 := s3.ext x4
  have f4 := ((f1.e x13).ext x4 (by simpa using ne1))
  have oh4 := (oh1.e x13).ext x4 (by simpa using Ne.symm ne3)
  try simp
  refine Tells.bind (countsHad (fine := due c l) (t3 := .ptr bf 0) (t4 := .ptr bc 0) (t6 := I i) (by simp [e3]) (by simp [e4]) (by simp [e5]) (by simp [e6]) (by simpa using (sl1.ext x13).ext x4) (by simp [e8]) (by simp) oh4 o.lh ll hx hb) ?_
  rintro ⟨ex, t5⟩ h5 ⟨rfl, k3, k4, k5, k6, hs', oh5, hl', hh, x5⟩
  simp only at k3 k4 k5 k6
  have oc5 := o4.ext x5 (by simpa using ne3)
  have s5 := s4.ext x5
  have f5 := f4.ext x5 (by simpa using ne2)
  have num' : ∀ p : Nat, p < 6 → has (take c l) p = true → nxt (take c l) p = hv hs' p + 1 := fun p hp ho => by
    rw [has_take] at ho
    rw [hh p hp]
    unfold take
    by_cases hd : due c l = true
    · rw [if_pos hd, if_pos hd, nxt_bumps ho, o.num p hp ho]; omega
    · rw [if_neg hd, if_neg hd, o.num p hp ho]; omega
  have own' : ∀ p, has (take c l) p = own6 p := fun p => by rw [has_take, o.own]
  have n1 : nxt (take c l) 1 = hv hs' 1 + 1 := num' 1 (by omega) (by rw [own']; rfl)
  have n3 : nxt (take c l) 3 = hv hs' 3 + 1 := num' 3 (by omega) (by rw [own']; rfl)
  have n4 : nxt (take c l) 4 = hv hs' 4 + 1 := num' 4 (by omega) (by rw [own']; rfl)
  have n0 : nxt (take c l) 0 = 0 := not_has_nxt (by rw [own']; rfl)
  have lo' : ∀ p, 0 ≤ hv hs' p := fun p => by
    by_cases hp : p < 6
    · rw [hh p hp]; have := o.lo p; have := many_le l p; split <;> omega
    · rw [hv_out hl' hp]; omega
  have hi' : ∀ p, hv hs' p ≤ 6 * ((i + 1 : Nat) : Int) := fun p => by
    by_cases hp : p < 6
    · rw [hh p hp]; have := o.hi p; have := many_le l p; split <;> omega
    · rw [hv_out hl' hp]; omega
  have lt3 : (take c l).length ≤ 3 := by rw [take_length]; exact lc
  have b1 := lo' 1
  have b2 := hi' 1
  have b3 := lo' 3
  have b4 := hi' 3
  have b5 := lo' 4
  have b6 := hi' 4
  have w1 : IntKind.i64.wrap (hv hs' 1 + 1) = hv hs' 1 + 1 := wrap_id (by omega) (by omega)
  have w3 : IntKind.i64.wrap (hv hs' 3 + 1) = hv hs' 3 + 1 := wrap_id (by omega) (by omega)
  have w4 : IntKind.i64.wrap (hv hs' 4 + 1) = hv hs' 4 + 1 := wrap_id (by omega) (by omega)
  have a1 := hv_at (hs := hs') (p := 1) (by omega)
  have a3 := hv_at (hs := hs') (p := 3) (by omega)
  have a4 := hv_at (hs := hs') (p := 4) (by omega)
  simp [J_precentorlaw15_ClockCounts_6, k4, oc5.1]
  refine Tells.cbE (clock_Next hX s5 (by omega) 1) ?_
  rintro _ h6 ⟨rfl, x6⟩
  have oc6 := oc5.e x6
  have oh6 := oh5.e x6
  simp [k4, k5, oc6.1, ixpR, oh5.1, oh6.1, a1, w1, n1]
  refine Tells.cbE (clock_Next hX (s5.ext x6) (by omega) 3) ?_
  rintro _ h7 ⟨rfl, x7⟩
  have oc7 := oc6.e x7
  have oh7 := oh6.e x7
  simp [k4, k5, oc7.1, ixpR, oh6.1, oh7.1, a3, w3, n3]
  refine Tells.cbE (clock_Next hX ((s5.ext x6).ext x7) (by omega) 4) ?_
  rintro _ h8 ⟨rfl, x8⟩
  have oc8 := oc7.e x8
  have oh8 := oh7.e x8
  simp [k4, k5, oc8.1, ixpR, oh7.1, oh8.1, a4, w4, n4]
  refine Tells.cbE (clock_Next hX (((s5.ext x6).ext x7).ext x8) (by omega) 0) ?_
  rintro _ h9 ⟨rfl, x9⟩
  have x59 := ((x6.trans x7).trans x8).trans x9
  simp [n0, J_precentorlaw15_ClockCounts_3, k6, wi]
  refine Tells.ok (hQ _ _ v' (take c l) hs' (by simp) ⟨by simp [k3], by simp [k4], by simp [k5], o.ne, oc8.e x9, oh8.e x9, s5.ext x59, lt3, hl', (f5.e x59).mono (by omega), own', num', ?_, lo', hi'⟩)
  intro y hy
  have := o.sm.take (by omega) l y hy
  omega

theorem counts (hX : OnlyKnown X) (hk : X F_precentorlaw15_known [] = some (.bool true)) {h : Heap} {l : AVal} {ls : List Int} (ol : RawInts h l ls) :
    Tells (fun m => acallX Try.prog X m F_precentorlaw15_ClockCounts [l] h) fun a h' => a = .bool true := by
  refine R_precentorlaw15_ClockCounts _ (hX _ _ rfl) ?_
  refine Tells.prot fun Q' hQ => ?_
  unfold S_precentorlaw15_ClockCounts
  simp [bldR, fillR, splice, ol.sl.known, ol.sl.cells]
  refine Tells.box rfl rfl fun h1 bf f1 x1 l1 => ?_
  try simp
  refine Tells.lit (r := intR) (xs := [1, 3, 4]) (css := [[I 1], [I 3], [I 4]]) (by rfl) ⟨rfl, rfl, rfl, trivial⟩ (by rfl) (by rfl) (by simp [bslR, fillR, splice]) fun v2 h2 g2 x2 _ => ?_
  refine Tells.bind (clock_New hX g2.1 (by simp)) ?_
  rintro _ h3 ⟨v3, rfl, s3, x3⟩
  refine Tells.new fun h4 bc o4 x4 l4 => ?_
  try simp
  refine Tells.stN o4 (by rfl) (by rfl) (by simp [s3.one]) (by rfl) fun h5 o5 x5 => ?_
  try simp
  refine Tells.new fun h6 bh o6 x6 l6 => ?_
  try simp
  refine Tells.stN o6 (by rfl) (by rfl) (by rfl) (by rfl) fun h7 o7 x7 => ?_
  have f0 := RawInts.feed (ol.ext x1) f1
  have x15 := ((x2.trans x3).trans x4)
  have f4 := f0.e x15
  have hfc : bf ≠ bc := by have := f0.lt; have := (x2.trans x3).next; omega
  have f5 := f4.ext x5 (by simpa using hfc)
  have hfh : bf ≠ bh := by have := f5.lt; omega
  have hch : bc ≠ bh := by have := o5.lt; omega
  have f7 := (f5.e x6).ext x7 (by simpa using hfh)
  have oc7 := (o5.e x6).ext x7 (by simpa using hch)
  have s7 := (((s3.ext x4).ext x5).ext x6).ext x7
  try simp
  refine Tells.bind (Tells.loop (fun n t g => ∃ (i : Nat) (v : AVal) (c : Slots) (hs : List Int), t 6 = I i ∧ i + n = 20 ∧ CInv i t g bf bc bh v c hs) (Q := fun p g => p.1 = .exit 0) ?_ 20 _ _ ?_) ?_
  · rintro n t g ⟨i, v, c, hs, t6, hi, o⟩
    refine Tells.prot fun Q2 hQ2 => ?_
    by_cases hc : i < 20
    · refine countsStep hX t6 hc o fun t' g' v' c' hs' e6 o' => ?_
      exact hQ2 _ _ (.inl ⟨rfl, n - 1, by omega, i + 1, v', c', hs', e6, by omega, o'⟩)
    · unfold L_precentorlaw15_ClockCounts_1
      simp [t6, show ¬ (i : Int) < 20 by omega]
      exact Tells.ok (hQ2 _ _ (.inr ⟨by simp, rfl⟩))
  · refine ⟨0, v3, newS [1, 3, 4], [0, 0, 0, 0, 0, 0], by simp, by omega, ⟨by simp, by simp, by simp, ⟨hfc, hfh, hch⟩, oc7, o7, s7, by decide, rfl, f7, fun p => ?_, ?_, ?_, ?_, ?_⟩⟩
    · have : newS [1, 3, 4] = [(1, 1), (3, 1), (4, 1)] := by decide
      rw [this]
      exact has134 p
    · intro p hp _
      have : p = 0 ∨ p = 1 ∨ p = 2 ∨ p = 3 ∨ p = 4 ∨ p = 5 := by omega
      have e : newS [1, 3, 4] = [(1, 1), (3, 1), (4, 1)] := by decide
      rcases this with rfl | rfl | rfl | rfl | rfl | rfl <;> simp_all [has, nxt, hv]
    · have e : newS [1, 3, 4] = [(1, 1), (3, 1), (4, 1)] := by decide
      rw [e]
      intro y hy
      simp at hy
      rcases hy with rfl | rfl | rfl <;> simp
    · intro p; rw [hv0]; omega
    · intro p; rw [hv0]; omega
  · rintro ⟨ex, t⟩ g rfl
    simp [J_precentorlaw15_ClockCounts_0]
    refine Tells.bind (known_X hk g) ?_
    rintro _ _ ⟨rfl, rfl⟩
    try simp
    exact Tells.ok (hQ _ _ rfl)

end
end Go.Proofs.Ytodccjbgomimjaa
