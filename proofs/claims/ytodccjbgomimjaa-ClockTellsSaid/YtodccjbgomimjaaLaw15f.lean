/-
  Law ClockTells: the walk.
-/
import Derived.Test.YtodccjbgomimjaaLaw15e
set_option linter.unusedVariables false
set_option linter.unusedSimpArgs false
namespace Go.Proofs.Ytodccjbgomimjaa
open Go.Ab

section
variable {X : XTab}

/-- What holds after i rounds. -/
structure KInv (i : Nat) (t7 t8 t9 : AVal) (g : Heap) (bf bc bd : Nat) (v pv nv : AVal) (s : Slots) (L : AVal) (ls : List Int) : Prop where
  t7 : t7 = .ptr bf 0
  t8 : t8 = .ptr bc 0
  t9 : t9 = .ptr bd 0
  ne : bf ≠ bc ∧ bf ≠ bd ∧ bc ≠ bd
  oc : Ob g bc [v]
  od : Ob g bd [pv, nv]
  sl : Sl pairR g v s
  tw : Two g pv nv s
  up : Up s
  len : s.length ≤ 8
  sm : Small s (1 + 4 * i)
  f : FeedL g bf (14 * i) L ls

theorem tellsNext (hX : OnlyKnown X) {h : Heap} {t : T} {bc bd : Nat} {v pv nv t7 t10 : AVal} {s : Slots} (e7 : t 7 = t7) (e8 : t 8 = .ptr bc 0) (e9 : t 9 = .ptr bd 0) (e10 : t 10 = t10) (e12 : t 12 = I (-1))
    (oc : Ob h bc [v]) (od : Ob h bd [pv, nv]) (sl : Sl pairR h v s) (tw : Two h pv nv s) (hl : s.length ≤ 8) :
    Tells (fun m => loopN (L_precentorlaw15_ClockTells_11 Try.prog (acallX Try.prog X m) m) m t h) fun p g => p.1 = .exit 4 ∧ p.2 7 = t7 ∧ p.2 8 = .ptr bc 0 ∧ p.2 9 = .ptr bd 0 ∧ p.2 10 = t10 ∧ Ext [] h g := by
  refine Tells.loop (fun n t g => ∃ k : Nat, t 7 = t7 ∧ t 8 = .ptr bc 0 ∧ t 9 = .ptr bd 0 ∧ t 10 = t10 ∧ t 12 = I ((k : Int) - 1) ∧ k + n = 17 ∧ Ext [] h g) ?_ 17 _ _ ?_
  · rintro n t g ⟨k, e7, e8, e9, e10, e12, hk, x⟩
    refine Tells.prot fun Q2 hQ2 => ?_
    have oc := oc.e x
    have od := od.e x
    unfold L_precentorlaw15_ClockTells_11
    simp [e12]
    refine Tells.cb (fun hc => ?_) (fun hc => ?_)
    · simp at hc
      have w : IntKind.i64.wrap ((k : Int) - 1 + 1) = ((k + 1 : Nat) : Int) - 1 := by rw [wrap_id (by omega) (by omega)]; omega
      simp only [Int.sub_add_cancel] at w
      simp [J_precentorlaw15_ClockTells_12, e8, oc.1, e12]
      refine Tells.cbE (clock_Next hX (sl.ext x) (by omega) ((k : Int) - 1)) ?_
      rintro _ h2 ⟨rfl, x2⟩
      have od2 := od.e x2
      simp [e9, od.1, od2.1, e12]
      refine Tells.cbE (ref_Next hX ((tw.ext x).ext x2) (by omega) ((k : Int) - 1)) ?_
      rintro _ h3 ⟨rfl, x3⟩
      simp [J_precentorlaw15_ClockTells_13, e12]
      refine Tells.ok (hQ2 _ _ (.inl ⟨rfl, n - 1, by omega, k + 1, by simp [e7], by simp [e8], by simp [e9], by simp [e10], ?_, by omega, (x.trans x2).trans x3⟩))
      simp
      rw [w]
      omega
    · exact Tells.ok (hQ2 _ _ (.inr ⟨by simp, rfl, by simp [e7], by simp [e8], by simp [e9], by simp [e10], x⟩))
  · exact ⟨0, e7, e8, e9, e10, by simpa using e12, by omega, .refl⟩

theorem tellsStep (hX : OnlyKnown X) {Q : Ex × T → Heap → Prop} {i : Nat} {t : T} {g : Heap} {bf bc bd : Nat} {v pv nv L : AVal} {s : Slots} {ls : List Int} (t10 : t 10 = I i) (hi : i < 10) (o : KInv i (t 7) (t 8) (t 9) g bf bc bd v pv nv s L ls)
    (hQ : ∀ (t' : T) g' v' pv' nv' s', t' 10 = I ((i + 1 : Nat) : Int) → s'.map (·.1) = s.map (·.1) → KInv (i + 1) (t' 7) (t' 8) (t' 9) g' bf bc bd v' pv' nv' s' L ls → Q (.normal, t') g') :
    Tells (fun m => L_precentorlaw15_ClockTells_7 Try.prog (acallX Try.prog X m) m t g) Q := by
  obtain ⟨ne1, ne2, ne3⟩ := o.ne
  have wi : IntKind.i64.wrap ((i : Int) + 1) = i + 1 := wrap_id (by omega) (by omega)
  have len := o.len
  unfold L_precentorlaw15_ClockTells_7
  simp [t10, show (i : Int) < 10 by omega, J_precentorlaw15_ClockTells_8, o.t7, o.t9, o.od.1]
  refine Tells.bind (stampsC hX o.tw (by omega) o.f (by omega)) ?_
  rintro u h1 ⟨l, sl1, ll, x1, f1⟩
  have oc1 := o.oc.ext x1 (by simpa using Ne.symm ne1)
  have od1 := o.od.ext x1 (by simpa using Ne.symm ne2)
  have s1 := o.sl.ext x1
  have tw1 := o.tw.ext x1
  simp [o.t8, oc1.1]
  refine Tells.cbE (clock_Due hX s1 (by omega) sl1 (by omega)) ?_
  rintro _ h2 ⟨rfl, x2⟩
  have od2 := od1.e x2
  simp [o.t9, od1.1, od2.1]
  refine Tells.cbE (ref_Due hX (tw1.ext x2) (by omega) (sl1.ext x2) (by omega)) ?_
  rintro _ h3 ⟨rfl, x3⟩
  have x13 := x2.trans x3
  have oc3 := oc1.e x13
  simp [Try.underlying4, J_precentorlaw15_ClockTells_10, o.t8, oc3.1]
  refine Tells.bind (clock_Take hX (s1.ext x13) (by omega) (sl1.ext x13) (by omega) (K := 1 + 4 * i) ⟨by omega, by omega⟩ o.sm) ?_
  rintro _ h4 ⟨v', rfl, s4, x4⟩
  have x14 := x13.trans x4
  try simp [o.t8]
  refine Tells.stN (oc1.e x14) (by rfl) (by rfl) (by simp [s4.one]) (by rfl) fun h5 o5 x5 => ?_
  have od5 := (od1.e x14).ext x5 (by simpa using Ne.symm ne3)
  simp [o.t9, od5.1]
  refine Tells.bind (ref_Take hX ((tw1.ext x14).ext x5) o.up (by omega) ((sl1.ext x14).ext x5) (by omega) (K := 1 + 4 * i) ⟨by omega, by omega⟩ o.sm) ?_
  rintro _ h6 ⟨pv', nv', rfl, tw6, x6⟩
  try simp [o.t9]
  refine Tells.stN (od5.e x6) (by rfl) (by rfl) (by simp [tw6.1.one, tw6.2.one]) (by rfl) fun h7 od7 x7 => ?_
  have oc7 := (o5.e x6).ext x7 (by simpa using ne3)
  have s7 := ((s4.ext x5).ext x6).ext x7
  have tw7 := tw6.ext x7
  have f7 := ((((f1.e x14).ext x5 (by simpa using ne1)).e x6).ext x7 (by simpa using ne2))
  have lt : (take s l).length ≤ 8 := by rw [take_length]; exact len
  try simp
  refine Tells.bind (tellsNext hX (t7 := .ptr bf 0) (t10 := I i) (by simp [o.t7]) (by simp [o.t8]) (by simp [o.t9]) (by simp [t10]) (by simp) oc7 od7 s7 tw7 lt) ?_
  rintro ⟨ex, t8⟩ h8 ⟨rfl, k7, k8, k9, k10, x8⟩
  simp only at k7 k8 k9 k10
  simp [J_precentorlaw15_ClockTells_9, k10, wi]
  refine Tells.ok (hQ _ _ v' pv' nv' (take s l) (by simp) (take_places s l) ⟨by simp [k7], by simp [k8], by simp [k9], o.ne, oc7.e x8, od7.e x8, s7.ext x8, tw7.ext x8, take_up o.up l, lt, fun y hy => ?_, (f7.e x8).mono (by omega)⟩)
  have := o.sm.take (by omega) l y hy
  omega

theorem tellsEnd (hX : OnlyKnown X) (hk : X F_precentorlaw15_known [] = some (.bool true)) {Q : AVal → Heap → Prop} (hQ : ∀ h', Q (.bool true) h') {i : Nat} {t : T} {g : Heap} {bf bc bd : Nat} {v pv nv L : AVal} {s : Slots} {ls : List Int} (o : KInv i (t 7) (t 8) (t 9) g bf bc bd v pv nv s L ls) :
    Tells (fun m => J_precentorlaw15_ClockTells_1 Try.prog (acallX Try.prog X m) m (retK Try.prog [.tmp 4]) t g) Q := by
  have len := o.len
  unfold J_precentorlaw15_ClockTells_1
  simp [o.t8, o.oc.1]
  refine Tells.bind (clock_Own hX o.sl (by omega)) ?_
  rintro w h1 ⟨g1, _, x1⟩
  have od1 := o.od.e x1
  have tw1 := o.tw.ext x1
  try simp
  refine Tells.bind (known_X hk h1) ?_
  rintro _ h1 ⟨rfl, rfl⟩
  simp [g1.1.len, o.t9, od1.1, tw1.1.len, J_precentorlaw15_ClockTells_2]
  refine Tells.bind (Tells.loop (fun n t g => ∃ k : Nat, t 13 = w ∧ t 9 = .ptr bd 0 ∧ t 14 = I k ∧ k + n = s.length ∧ g = h1) (Q := fun p g => p.1 = .exit 6) ?_ s.length _ _ ?_) ?_
  · rintro n t g ⟨k, t13, t9, t14, hk, rfl⟩
    refine Tells.prot fun Q2 hQ2 => ?_
    unfold L_precentorlaw15_ClockTells_4
    simp [t14, t13, g1.1.len]
    refine Tells.cb (fun hc => ?_) (fun hc => ?_)
    · simp at hc
      obtain ⟨a, hdi⟩ : ∃ d, (s.map (·.1))[k]? = some d := ⟨_, List.getElem?_eq_getElem (by simpa using hc)⟩
      obtain ⟨b, pp, B, q1, q2, q3⟩ := g1.1.atI hdi
      obtain ⟨b', pp', B', k1, k2, k3⟩ := tw1.1.atI hdi
      have w : IntKind.i64.wrap ((k : Int) + 1) = k + 1 := wrap_id (by omega) (by omega)
      simp [J_precentorlaw15_ClockTells_5, t13, t14, q1, q2, q3, t9, od1.1, k1, k2, k3, J_precentorlaw15_ClockTells_6, w]
      exact Tells.ok (hQ2 _ _ (.inl ⟨rfl, n - 1, by omega, k + 1, by simp [t13], by simp [t9], by simp, by omega, rfl⟩))
    · exact Tells.ok (hQ2 _ _ (.inr ⟨by simp, rfl⟩))
  · exact ⟨0, by simp, by simp [o.t9], by simp, by omega, rfl⟩
  · rintro ⟨ex, t⟩ g rfl
    simp [J_precentorlaw15_ClockTells_3]
    exact Tells.ok (hQ _)

theorem clockTells_ (hX : OnlyKnown X) (hk : X F_precentorlaw15_known [] = some (.bool true)) {h : Heap} {u l : AVal} {ps ls : List Int} (ou : RawInts h u ps) (ol : RawInts h l ls) :
    Tells (fun m => acallX Try.prog X m F_precentorlaw15_ClockTells [u, l] h) fun a h' => a = .bool true := by
  refine R_precentorlaw15_ClockTells _ _ (hX _ _ rfl) ?_
  refine Tells.prot fun Q' hQ => ?_
  unfold S_precentorlaw15_ClockTells
  simp
  refine Tells.bind (Tells.loop (fun n t g => ∃ (i : Nat) (qs : List Int), t 0 = u ∧ t 1 = l ∧ t 6 = I i ∧ i + n = 8 ∧ qs.length = i ∧ Gl intR h g (t 5) qs ∧ Ext [] h g)
    (Q := fun p g => p.1 = .exit 0 ∧ p.2 1 = l ∧ ∃ qs, qs.length ≤ 8 ∧ Sl intR g (p.2 5) qs ∧ Ext [] h g) ?_ 8 _ _ ?_) ?_
  · rintro n t g ⟨i, qs, t0, t1, t6, hi, hq, go, x⟩
    refine Tells.prot fun Q2 hQ2 => ?_
    have og := ou.sl.ext x
    have wi : IntKind.i64.wrap ((i : Int) + 1) = i + 1 := wrap_id (by omega) (by omega)
    unfold L_precentorlaw15_ClockTells_14
    by_cases h1 : i < ps.length
    · by_cases h2 : i < 8
      · have h2' : (i : Int) < 8 := by omega
        obtain ⟨y, hdi⟩ : ∃ d, ps[i]? = some d := ⟨_, List.getElem?_eq_getElem h1⟩
        obtain ⟨b, pp, B, q1, q2, q3⟩ := og.atI hdi
        simp [t6, t0, og.len, h1, h2', J_precentorlaw15_ClockTells_15, q1, q2, q3]
        refine Tells.bind (Pick hX y 14 ⟨by omega, by omega⟩ g) ?_
        rintro _ g ⟨rfl, rfl⟩
        have p0 := pick_lo y 14
        have p1 := pick_hi y 14 (by omega)
        have wp : IntKind.i64.wrap (pick y 14 - 1) = pick y 14 - 1 := wrap_id (by omega) (by omega)
        simp [wp]
        refine Tells.app1 go (by rfl) (by rfl) (show intR.rep g [I (pick y 14 - 1)] (pick y 14 - 1) from rfl) (by rfl) (by rfl) (by omega) (by decide) x.next fun s6 h6 g6 x6 y6 z6 => ?_
        simp [J_precentorlaw15_ClockTells_16, t6, wi]
        exact Tells.ok (hQ2 _ _ (.inl ⟨rfl, n - 1, by omega, i + 1, qs ++ [pick y 14 - 1], by simp [t0], by simp [t1], by simp, by omega, by simp [hq], by simpa using g6, y6 [] x⟩))
      · have h2' : ¬ (i : Int) < 8 := by omega
        simp [t6, t0, og.len, h1, h2']
        exact Tells.ok (hQ2 _ _ (.inr ⟨by simp, rfl, by simp [t1], qs, by omega, by simpa using go.1, x⟩))
    · simp [t6, t0, og.len, h1]
      exact Tells.ok (hQ2 _ _ (.inr ⟨by simp, rfl, by simp [t1], qs, by omega, by simpa using go.1, x⟩))
  · exact ⟨0, [], by simp, by simp, by simp, by omega, rfl, by simpa using Gl.nil, .refl⟩
  · rintro ⟨ex, t⟩ g ⟨rfl, t1, qs, hq, sq, x⟩
    simp only at t1 sq
    generalize hz : t 5 = z at sq
    have ol := ol.ext x
    simp [J_precentorlaw15_ClockTells_0, t1, hz, bldR, fillR, splice, ol.sl.known, ol.sl.cells]
    refine Tells.box rfl rfl fun h1 bf f1 x1 l1 => ?_
    try simp
    refine Tells.bind (clock_New hX (sq.ext x1) (by omega)) ?_
    rintro _ h2 ⟨v, rfl, s2, x2⟩
    try simp
    refine Tells.new fun h3 bc o3 x3 l3 => ?_
    try simp
    refine Tells.stN o3 (by rfl) (by rfl) (by simp [s2.one]) (by rfl) fun h4 o4 x4 => ?_
    have f0 : FeedL h1 bf 0 l ls := ⟨0, f1, by omega, by omega, (ol.ext x1).sl, (ol.ext x1).small⟩
    have hfc : bf ≠ bc := by have := f0.lt; have := x2.next; omega
    have f4 := ((f0.e x2).e x3).ext x4 (by simpa using hfc)
    have s4 := (s2.ext x3).ext x4
    have q4 := (((sq.ext x1).ext x2).ext x3).ext x4
    have ln := newS_length qs
    try simp
    refine Tells.bind (ref_New hX q4 (by omega)) ?_
    rintro _ h5 ⟨pv, nv, rfl, tw5, x5⟩
    try simp
    refine Tells.new fun h6 bd o6 x6 l6 => ?_
    try simp
    refine Tells.stN o6 (by rfl) (by rfl) (by simp [tw5.1.one, tw5.2.one]) (by rfl) fun h7 o7 x7 => ?_
    have x46 := x5.trans x6
    have hfd : bf ≠ bd := by have := (f4.e x5).lt; omega
    have hcd : bc ≠ bd := by have := (o4.e x5).lt; omega
    have f7 := (f4.e x46).ext x7 (by simpa using hfd)
    have oc7 := (o4.e x46).ext x7 (by simpa using hcd)
    have s7 := (s4.ext x46).ext x7
    have tw7 := (tw5.ext x6).ext x7
    have fr := newS_fresh qs
    try simp
    refine Tells.bind (Tells.loop (fun n t g => ∃ (i : Nat) (v pv nv : AVal) (s : Slots), t 10 = I i ∧ i + n = 10 ∧ KInv i (t 7) (t 8) (t 9) g bf bc bd v pv nv s l ls)
      (Q := fun p g => p.1 = .exit 2 ∧ ∃ (i : Nat) (v pv nv : AVal) (s : Slots), KInv i (p.2 7) (p.2 8) (p.2 9) g bf bc bd v pv nv s l ls) ?_ 10 _ _ ?_) ?_
    · rintro n t g ⟨i, v, pv, nv, s, t10, hi, o⟩
      refine Tells.prot fun Q2 hQ2 => ?_
      by_cases hc : i < 10
      · refine tellsStep hX t10 hc o fun t' g' v' pv' nv' s' e10 _ o' => ?_
        exact hQ2 _ _ (.inl ⟨rfl, n - 1, by omega, i + 1, v', pv', nv', s', e10, by omega, o'⟩)
      · unfold L_precentorlaw15_ClockTells_7
        simp [t10, show ¬ (i : Int) < 10 by omega]
        exact Tells.ok (hQ2 _ _ (.inr ⟨by simp, rfl, i, v, pv, nv, s, by simpa using o⟩))
    · refine ⟨0, v, pv, nv, newS qs, by simp, by omega, ⟨by simp, by simp, by simp, ⟨hfc, hfd, hcd⟩, oc7, o7, s7, tw7, fr.up, by omega, fr.small, f7⟩⟩
    · rintro ⟨ex, t⟩ g ⟨rfl, i, v, pv, nv, s, o⟩
      simp
      exact tellsEnd hX hk (fun h' => hQ _ _ rfl) o

end
end Go.Proofs.Ytodccjbgomimjaa
