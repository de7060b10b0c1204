/-
  Law AttrFinds: the walk.
-/
import Derived.Test.YtbdfgkkfcoamfaaAttr1
import Derived.Test.YtbdfgkkfcoamfaaKnown0
import Derived.Test.YtbdfgkkfcoamfaaRow0
import Derived.Test.YtbdfgkkfcoamfaaSprecentorlaw5
set_option linter.unusedVariables false
set_option linter.unusedSimpArgs false
namespace Go.Proofs.Ytbdfgkkfcoamfaa
open Go.Ab

theorem RawInts.feed' {h : Heap} {v : AVal} {xs : List Int} {bf : Nat} (o : RawInts h v xs) (ob : Ob h bf [v, I 0]) : Feed h bf 0 := ⟨v, 0, xs, ob, by omega, by omega, o.sl, o.small⟩
theorem getA_at : ∀ {l : List Att}, (l.Pairwise fun a b => (a.1.toList == b.1.toList) = false) → ∀ {i : Nat} {a : Att}, l[i]? = some a → getA l a.1 = some a
  | [], _, _, _, h => by simp at h
  | b :: l, hp, 0, a, h => by
    simp at h
    subst h
    simp [getA]
  | b :: l, hp, i + 1, a, h => by
    rw [List.pairwise_cons] at hp
    have hm : l[i]? = some a := by simpa using h
    have hne := hp.1 a (List.mem_of_getElem? hm)
    have := getA_at hp.2 hm
    simp only [getA] at this ⊢
    rw [List.find?_cons, hne]
    exact this
theorem getA_none {l : List Att} {nm : ByteArray} (k : ∀ a, a ∈ l → (a.1.toList == nm.toList) = false) : getA l nm = none := by
  unfold getA
  rw [List.find?_eq_none]
  intro a ha
  simp only [k a ha]
  simp
theorem beq_comm' (a b : ByteArray) : (a.toList == b.toList) = (b.toList == a.toList) := by
  rw [Bool.eq_iff_iff, beq_iff_eq, beq_iff_eq]; exact ⟨Eq.symm, Eq.symm⟩
theorem gone_none {l : List Att} (hp : l.Pairwise fun a b => (a.1.toList == b.1.toList) = false) {i : Nat} {a : Att} (hi : l[i]? = some a) : getA (l.take i ++ l.drop (i + 1)) a.1 = none := by
  have a1 := List.getElem?_eq_some_iff.1 hi
  refine getA_none fun b hb => ?_
  rcases List.mem_append.1 hb with q | q
  · obtain ⟨j, hj, rfl⟩ := List.getElem_of_mem q
    simp at hj
    have := List.pairwise_iff_getElem.1 hp j i (by omega) a1.1 (by omega)
    rw [a1.2] at this
    simpa using this
  · obtain ⟨j, hj, rfl⟩ := List.getElem_of_mem q
    simp at hj
    have := List.pairwise_iff_getElem.1 hp i (i + 1 + j) a1.1 (by omega) (by omega)
    rw [a1.2] at this
    rw [beq_comm']
    simpa using this

theorem attrs_find {X : XTab} (hX : OnlyKnown X) (hk : X F_precentorlaw5_known [] = some (.bool true)) {h : Heap} {v1 : AVal} {xs1 : List Int} (r1 : RawInts h v1 xs1) (x : Int) (hx : In64 x) :
    Tells (fun m => acallX Try.prog X m F_precentorlaw5_AttrFinds [v1, I x] h) fun a _ => a = .bool true := by
  refine R_precentorlaw5_AttrFinds _ _ (hX _ _ rfl) ?_
  refine Tells.prot fun Q' hQ => ?_
  unfold S_precentorlaw5_AttrFinds
  simp [bldR, fillR, splice, r1.sl.known, r1.sl.cells]
  refine Tells.box rfl rfl fun h1 bf of x1 l1 => ?_
  have f1 : Feed h1 bf 0 := RawInts.feed' (r1.ext x1) of
  try simp
  refine Tells.bind (AttrsH hX f1 (by omega)) ?_
  rintro ra h2 ⟨ats, ga, hl, hs, hv, x2, f2⟩
  have R := RightL.of hl hs hv
  try simp
  refine Tells.bind (known_X hk h2) ?_
  rintro _ h2 ⟨rfl, rfl⟩
  try simp
  refine Tells.bind (attr_Right hX ga.1 R) ?_
  rintro _ h3 ⟨rfl, x3⟩
  have a3 := ga.1.ext x3
  simp [J_precentorlaw5_AttrFinds_0]
  refine Tells.bind (Tells.loop (fun n t g => ∃ i : Nat, t 1 = I x ∧ t 6 = ra ∧ t 7 = I i ∧ i + n = ats.length ∧ Sl attrR g ra ats)
    (Q := fun p g => p.1 = .exit 0 ∧ p.2 1 = I x ∧ p.2 6 = ra ∧ Sl attrR g ra ats) ?_ ats.length _ _ ?_) ?_
  · rintro n t g ⟨i, t1, t6, t7, hi, o⟩
    refine Tells.prot fun Q2 hQ2 => ?_
    unfold L_precentorlaw5_AttrFinds_3
    simp [t6, t7, o.len]
    refine Tells.cb (fun hc => ?_) (fun hc => ?_)
    · simp at hc
      obtain ⟨a, ha⟩ : ∃ a, ats[i]? = some a := ⟨_, List.getElem?_eq_getElem hc⟩
      obtain ⟨b, p, B, q1, q2, q3, q4, q5, q6, q7⟩ := att_at o ha
      have w : IntKind.i64.wrap ((i : Int) + 1) = i + 1 := wrap_id (by omega) (by omega)
      simp [J_precentorlaw5_AttrFinds_4, t6, t7, q1, q2, q5]
      refine Tells.bind (attr_Get hX o (by omega) a.1) ?_
      rintro _ g1 ⟨xg, ⟨a', ha', rfl⟩ | ⟨hn, rfl⟩⟩
      · rw [getA_at R.dist ha] at ha'
        cases ha'
        have o1 := o.ext xg
        simp [extR]
        refine Tells.newSt (ds := vlC a.2) (by rfl) (by rfl) (by rfl) (by rfl) fun g2 bn on xn ln => ?_
        have o2 := o1.ext xn
        obtain ⟨b', p', B', r1, r2, r3, r4, r5, r6, r7⟩ := att_at o2 ha
        simp [t6, t7, on.1, vlC, r1, r2, r6, r7]
        refine Tells.cbE (value_Same hX a.2 a.2 g2) ?_
        rintro _ g3 ⟨rfl, x3⟩
        simp [sameV_self, J_precentorlaw5_AttrFinds_5, t7, w]
        exact Tells.ok (hQ2 _ _ (.inl ⟨rfl, n - 1, by omega, i + 1, by simp [t1], by simp [t6], by simp, by omega, o2.ext x3⟩))
      · rw [getA_at R.dist ha] at hn
        cases hn
    · exact Tells.ok (hQ2 _ _ (.inr ⟨by simp, rfl, by simp [t1], by simp [t6], o⟩))
  · exact ⟨0, by simp, by simp, by simp, by omega, a3⟩
  · rintro ⟨ex, t⟩ g ⟨rfl, t1, t6, o⟩
    simp only at t1 t6
    simp [J_precentorlaw5_AttrFinds_1, t6]
    refine Tells.bind (attr_Get hX o (by omega) _) ?_
    rintro _ g1 ⟨xg, ⟨a', ha', rfl⟩ | ⟨hn, rfl⟩⟩
    · rw [getA_none fun a ha => R.body a ha] at ha'
      cases ha'
    · have o1 := o.ext xg
      simp [extR]
      refine Tells.newSt (ds := vlC vl0) (by rfl) (by rfl) (by rfl) (by rfl) fun g2 bn on xn ln => ?_
      have o2 := o1.ext xn
      by_cases hz : ats.length = 0
      · simp [t6, o2.len, hz]
        exact Tells.ok (hQ _ _ rfl)
      · have hz2 : ((ats.length : Int) == 0) = false := beq_eq_false_iff_ne.2 (by omega)
        simp [t6, o2.len, hz2, J_precentorlaw5_AttrFinds_2, t1]
        refine Tells.bind (Pick hX x ats.length ⟨by omega, by omega⟩ g2) ?_
        rintro _ g2 ⟨rfl, rfl⟩
        obtain ⟨p0, p1⟩ : 0 ≤ pick x ats.length ∧ pick x ats.length < ats.length := ⟨pick_lo _ _, pick_hi _ _ (by omega)⟩
        obtain ⟨i, hi⟩ : ∃ i : Nat, pick x ats.length = i := ⟨(pick x ats.length).toNat, by omega⟩
        obtain ⟨a, ha⟩ : ∃ a, ats[i]? = some a := ⟨_, List.getElem?_eq_getElem (by omega)⟩
        have w : IntKind.i64.wrap ((i : Int) + 1) = i + 1 := wrap_id (by omega) (by omega)
        obtain ⟨u1, k1, c1, b1⟩ := o2.takeR (n := 6) (by rfl) (hi := i) (by omega)
        obtain ⟨u2, k2, c2, b2⟩ := o2.dropR (n := 6) (by rfl) (lo := i + 1) (by omega)
        have k2 : slcR 6 ra (some (.int .i64 ((i : Int) + 1))) none none = some u2 := k2
        have e3 := Ext.new g2 false []
        obtain ⟨s3, g3⟩ := Sl.lit (r := attrR) (h := g2) (h0 := g2) (n := 6) (xs := ([] : List Att)) (css := []) (k := 0) (cells := []) rfl trivial rfl rfl
        simp only [hi, bsl0, arbV_val, t6, obv_val, k1, of_some]
        refine Tells.appNE g3 (c1.ext e3) (by rfl) (by simp; omega) (by decide) e3.next fun s4 h4 g4 _ y4 _ => ?_
        have e4 : Ext [] g2 h4 := y4 _ e3
        simp [w, k2]
        refine Tells.appNE (by_ := 64) g4 (c2.ext e4) (by rfl) (by simp; omega) (by decide) e4.next fun s5 h5 g5 _ y5 _ => ?_
        have e5 : Ext [] g2 h5 := y5 _ e4
        have o5 := o2.ext e5
        simp only [List.nil_append] at g5
        obtain ⟨b, p, B, q1, q2, q3, q4, q5, q6, q7⟩ := att_at o5 ha
        simp [t6, q1, q2, q5]
        refine Tells.bind (attr_Get hX g5.1 (by simp; omega) _) ?_
        rintro _ h6 ⟨xg6, ⟨a', ha', rfl⟩ | ⟨hn', rfl⟩⟩
        · rw [gone_none R.dist ha] at ha'
          cases ha'
        · simp [extR]
          refine Tells.newSt (ds := vlC vl0) (by rfl) (by rfl) (by rfl) (by rfl) fun h7 bm om xm lm => ?_
          have g7 := (g5.1.ext xg6).ext xm
          have o7 := (o5.ext xg6).ext xm
          have sb : (ats.take i ++ ats.drop (i + 1)).Sublist ats := by
            have := (List.Sublist.refl (ats.take i)).append (List.drop_sublist_drop_left ats (Nat.le_succ i))
            rwa [List.take_append_drop] at this
          try simp
          refine Tells.bind (attr_Right hX g7 (R.sub sb)) ?_
          rintro _ h8 ⟨rfl, x8⟩
          simp [t6]
          refine Tells.bind (attr_Same hX (o7.ext x8) (g7.ext x8) (by omega) (by simp; omega)) ?_
          rintro _ h9 ⟨rfl, x9⟩
          have hs : sameA ats (ats.take i ++ ats.drop (i + 1)) = false := sameA_len (by simp; omega)
          simp [hs]
          exact Tells.ok (hQ _ _ rfl)
end Go.Proofs.Ytbdfgkkfcoamfaa
