/-
  Law TurnTells: the walk, to its end.
-/
import Derived.Test.YtebkohdmoaginaaLaw21b
set_option linter.unusedVariables false
set_option linter.unusedSimpArgs false
namespace Go.Proofs.Ytebkohdmoaginaa
open Go.Ab

section
variable {X : XTab} {h : Heap} {v : AVal} {ys : List Int} {b : Int} {bf bt br K bq : Nat} {kv : AVal} {qs : List Bool} {ep : Int} {st rd : Bool} {pv : AVal} {cs : List Ch} {sv : AVal} {S : List Int} {rv : AVal}

/-- What was told is the same, one by one. -/
theorem tellsCmp (hX : OnlyKnown X) {t : T} {xv yv : AVal} (ox : Sl chG h xv cs) (oy : Sl chG h yv cs) (hl : cs.length < 2 ^ 30) (t13 : t 13 = .bool true) (t17 : t 17 = xv) (t19 : t 19 = yv) (t21 : t 21 = I 0) :
    Tells (fun m => loopN (L_precentorlaw21_TurnTells_7 Try.prog (acallX Try.prog X m) m) m t h) fun p g => p.1 = .exit 3 ∧ p.2 13 = .bool true ∧ Ext [] h g ∧ ∀ j, j < 13 → p.2 j = t j := by
  refine Tells.loop (fun n t' g => ∃ i : Nat, t' 13 = .bool true ∧ t' 17 = xv ∧ t' 19 = yv ∧ t' 21 = I i ∧ i + n = cs.length ∧ Ext [] h g ∧ ∀ j, j < 13 → t' j = t j) ?_ cs.length _ _ ?_
  · rintro n t' g ⟨i, t13, t17, t19, t21, hi, x, ht⟩
    refine Tells.prot fun Q2 hQ2 => ?_
    have u4 := Try.underlying4
    have oxg := ox.ext x
    have oyg := oy.ext x
    unfold L_precentorlaw21_TurnTells_7
    by_cases hc : i < cs.length
    · obtain ⟨c, hcc⟩ : ∃ c, cs[i]? = some c := ⟨_, List.getElem?_eq_getElem hc⟩
      obtain ⟨b1, p1, B1, c1, q1, e1, r1⟩ := oxg.at (n := 5) rfl (i := (i : Int)) (by omega) (by simpa using hcc)
      obtain ⟨b2, p2, B2, c2, q2, e2, r2⟩ := oyg.at (n := 5) rfl (i := (i : Int)) (by omega) (by simpa using hcc)
      have r1 : c1 = chC c := r1
      have r2 : c2 = chC c := r2
      subst r1; subst r2
      have a1 := e1.cell0 (by simp [chC])
      have a2 := e2.cell0 (by simp [chC])
      have s1 := e1.sub 1 4 (by simp [chC])
      have s2 := e2.sub 1 4 (by simp [chC])
      have l1 := s1.le
      have l2 := s2.le
      have m1 := s1.eq
      have m2 := s2.eq
      simp [chC] at a1 a2 l1 l2 m1 m2
      have w : IntKind.i64.wrap ((i : Int) + 1) = i + 1 := wrap_id (by omega) (by omega)
      simp [t21, t17, oxg.len, hc, t13, J_precentorlaw21_TurnTells_8, t19, q1, q2, e1.get, e2.get, a1, a2, u4, l1, l2, m1, m2]
      refine Tells.cbE (same_Sub hX g c.2.1 c.2.2) ?_
      rintro _ g2 ⟨rfl, x2⟩
      simp [J_precentorlaw21_TurnTells_9, t21, w]
      refine Tells.ok (hQ2 _ _ (.inl ⟨rfl, n - 1, by omega, i + 1, by simp, by simp [t17], by simp [t19], by simp, by omega, x.trans x2, fun j hj => ?_⟩))
      rw [← ht j hj]
      dsimp only
      repeat rw [upd_ne _ _ _ _ (by omega)]
    · simp [t21, t17, oxg.len, hc]
      refine Tells.ok (hQ2 _ _ (.inr ⟨by simp, rfl, by simp [t13], x, fun j hj => ?_⟩))
      rw [← ht j hj]
      dsimp only
      repeat rw [upd_ne _ _ _ _ (by omega)]
  · exact ⟨0, t13, t17, t19, t21, by omega, .refl, fun _ _ => rfl⟩

/-- Some Duo of these, epoch and changes at most so many. -/
def DuoE (h : Heap) (v : AVal) (ys : List Int) (b : Int) (bf bt br : Nat) (n : Nat) : Prop := ∃ bq kv qs ep st rd pv cs sv S rv, Duo h v ys b bf bt br (2000 + 10 * n) bq kv qs ep st rd pv cs sv S rv ∧ 0 ≤ ep ∧ ep ≤ n ∧ cs.length ≤ n

theorem aBin_beqlT (t : Nat) (ht : Try.prog.underlying t = some .bool) (x y : Operand) (c d : Bool) (e : c = d) : aBin Try.prog .eql t x y (.bool c) (.bool d) = some (.bool true) := by
  rw [aBin_beql _ _ _ _ _ _ ht, e]; simp

/-- One of Quiet, Ready, Open. -/
theorem tells6 (hX : OnlyKnown X) {t : T} {n : Nat} (hn : n ≤ 50) (ok : TreeOk ys) (h7 : ys.length ≤ 7) (hT : isT ys b = true)
    (d : Duo h v ys b bf bt br K bq kv qs ep st rd pv cs sv S rv) (hK : K ≤ 2002 + 10 * n) (he : 0 ≤ ep ∧ ep ≤ n) (hc : cs.length ≤ n) (t5 : t 5 = .ptr bf 0) (t6 : t 6 = v) (t7 : t 7 = .ptr bt 0) (t9 : t 9 = .ptr br 0) {e : Int} (t12 : t 12 = I e) (he2 : 0 ≤ e ∧ e ≤ 2 ^ 20)
    (t13 : t 13 = .bool true) {r : Int} (t75 : t 75 = I r) (t173 : ∃ q, t 173 = .bool q)
    {k : Nat → Kn (Ex × T)} {Q : Ex × T → Heap → Prop}
    (q : ∀ (t' : T) (h' : Heap), (∀ j, j < 12 → t' j = t j) → t' 13 = .bool true → DuoE h' v ys b bf bt br (n + 1) → Tells (fun m => k m .normal t' h') Q)
    (hk : ∀ m t h, blkK 3 (k m) (.exit 3) t h = k m .normal t h) :
    Tells (fun m => J_precentorlaw21_TurnTells_6 Try.prog (acallX Try.prog X m) m (k m) t h) Q := by
  have u4 := Try.underlying4
  have kl := kidsN_len b 0 ys
  have ksr := kidsN_sorted (b := b) (l := ys) (i := 0)
  obtain ⟨b0, bl⟩ := (isT_ok hT).2.2
  have fr : ∀ (t' : T), (∀ j, j < 12 → t' j = t j) → ∀ j, j < 12 → t' j = t j := fun _ z => z
  unfold J_precentorlaw21_TurnTells_6
  obtain ⟨q0, t173⟩ := t173
  cases q0 with
  | true =>
    have w1 : IntKind.i64.wrap ((ys.length : Int) + 3) = ys.length + 3 := wrap_id (by omega) (by omega)
    simp [t173, t5, t6, d.r.y.len, w1]
    refine Tells.bind (Next hX _ ⟨by omega, by omega⟩ d.f (by omega)) ?_
    rintro _ h1 ⟨z, rfl, z0, z1, _, x1, f1⟩
    have z1 := z1 (by omega)
    have d1 := d.feed x1 f1
    have w2 : IntKind.i64.wrap (z - 1) = z - 1 := wrap_id (by omega) (by omega)
    simp [w2, t7, t12]
    refine Tells.bind (turn_Quiet hX d1.p (by omega) (z - 1) e) ?_
    rintro a h2 ⟨x2, hq⟩
    have fx2 : Feed h2 bf (K + 1) := d1.f.ext x2 (by simpa using d.n2)
    have hSl : S.length ≤ 100 := by
      have : S = (kidsN b 0 ys).filter (fun k => decide (k ∈ S)) := sorted_ext _ _ d.rel.1 (ksr.filter _) fun z => by
        simp only [List.mem_filter, decide_eq_true_eq]
        exact ⟨fun q => ⟨d.rel.2.1 z q, q⟩, fun q => q.2⟩
      have hle := List.length_filter_le (fun k => decide (k ∈ S)) (kidsN b 0 ys)
      have := congrArg List.length this
      omega
    have r2 := d1.r.ext x2 (by simpa using d.n5.symm)
    simp [t9, t12]
    refine Tells.bind (rturn_Quiet hX r2 (by omega) hSl hT (z - 1) e) ?_
    rintro a' h3 ⟨x3, hq'⟩
    have fx3 := fx2.ext x3 (by simpa using d.n3)
    rcases hq with ⟨hst, hee, rfl, i, hi, hqi, p2⟩ | ⟨rfl, rfl, hall⟩
    · obtain ⟨hxS, rel2⟩ := d.rel.quiet ksr d.p.l hi hqi
      rcases hq' with ⟨_, _, _, _, rfl, sv', r3⟩ | ⟨hno, _⟩
      · simp [u4]
        refine q _ _ (fun j hj => ?_) (by simp) ⟨bq, kv, _, ep, st, rd, pv, cs, sv', _, rv, ⟨fx3.mono (by omega), p2.eo x3 (by simpa using d.n4) (by simpa using d.n5) (by simpa using .inl r2.o.2.1), r3, rel2, d.n1, d.n2, d.n3, d.n4, d.n5⟩, he.1, by omega, by omega⟩
        repeat rw [upd_ne _ _ _ _ (by omega)]
      · exact absurd ⟨hst, hee, List.mem_of_getElem? hi, hxS⟩ hno
    · rcases hq' with ⟨hst, hee, hm, hS, rfl, sv', r3⟩ | ⟨hno, rfl, r3⟩
      · obtain ⟨i, h1, h2⟩ := (d.rel.kid d.p.l (z - 1)).1 ⟨hm, hS⟩
        have := hall hst hee i h1
        rw [h2] at this; cases this
      · simp [u4]
        refine q _ _ (fun j hj => ?_) (by simp) ⟨bq, kv, qs, ep, st, rd, pv, cs, sv, S, rv, ⟨fx3.mono (by omega), d1.p.eo x3 (by simpa using d.n4) (by simpa using d.n5) (by simpa using .inl r2.o.2.1), r3, d.rel, d.n1, d.n2, d.n3, d.n4, d.n5⟩, he.1, by omega, by omega⟩
        repeat rw [upd_ne _ _ _ _ (by omega)]
  | false =>
    by_cases h6 : r = 6
    · simp [t173, t75, h6, t5]
      refine Tells.bind (Next hX 3 ⟨by decide, by decide⟩ d.f (by omega)) ?_
      rintro _ h1 ⟨z, rfl, z0, z1, _, x1, f1⟩
      have d1 := d.feed x1 f1
      simp [t7]
      refine Tells.bind (turn_Ready hX d1.p (by omega) (z == 0)) ?_
      rintro _ h2 ⟨rfl, p2, x2⟩
      have fx2 := d1.f.ext x2 (by simpa using d.n1)
      have r2 := d1.r.ext x2 (by simpa using d.n4.symm)
      simp [t9]
      refine Tells.bind (rturn_Ready hX r2 (by omega) hT (z == 0)) ?_
      rintro _ h3 ⟨rfl, r3, x3⟩
      have fx3 := fx2.ext x3 (by simpa using d.n3)
      have hall := d.rel.all ksr d.p.l
      rw [hall] at p2
      simp [u4, hall]
      refine q _ _ (fun j hj => ?_) (by simp) ⟨bq, kv, qs, ep, st, _, pv, cs, sv, S, rv, ⟨fx3.mono (by omega), p2.eo x3 (by simpa using d.n4) (by simpa using d.n5) (by simpa using .inl r2.o.2.1), r3, d.rel, d.n1, d.n2, d.n3, d.n4, d.n5⟩, he.1, by omega, by omega⟩
      repeat rw [upd_ne _ _ _ _ (by omega)]
    · have w1 : IntKind.i64.wrap (ep + 1) = ep + 1 := wrap_id (by omega) (by omega)
      simp [t173, t75, beq_eq_false_iff_ne.2 h6, t9, d.r.o.1, nckR, t5, w1]
      refine Tells.cbE (Next hX 7 ⟨by decide, by decide⟩ d.f (by omega)) ?_
      rintro _ h1 ⟨z, rfl, z0, z1, _, x1, f1⟩
      have z1 := z1 (by omega)
      have d1 := d.feed x1 f1
      have quo : ∀ t x y, aBin Try.prog .quo t x y (I z) (I 6) = some (I (IntKind.i64.wrap (z.tdiv 6))) := fun t x y => aBin_quo _ _ _ _ _ _ _ (by decide)
      have hz : z.tdiv 6 = 0 ∨ z.tdiv 6 = 1 := by
        rw [Int.tdiv_eq_ediv_of_nonneg z0]; omega
      have w2 : IntKind.i64.wrap (z.tdiv 6) = z.tdiv 6 := wrap_id (by omega) (by omega)
      have w3 : IntKind.i64.wrap (ep + 1 + z.tdiv 6) = ep + 1 + z.tdiv 6 := wrap_id (by omega) (by omega)
      simp [d1.r.o.1, quo, w2, w3, t7]
      refine Tells.bind (turn_Open hX d1.p (by omega) (by omega) (ep + 1 + z.tdiv 6)) ?_
      rintro a h2 ⟨x2, hq⟩
      have fx2 := d1.f.ext x2 (by simpa using d.n1)
      have r2 := d1.r.ext x2 (by simpa using d.n4.symm)
      rcases hq with ⟨hst, hee, rfl, s2, bq', hbq, p2⟩ | ⟨hno, rfl, rfl⟩
      · simp [t9]
        refine Tells.bind (rturn_Open hX r2 (by omega) (e := ep + 1 + z.tdiv 6) (by omega)) ?_
        rintro a' h3 ⟨x3, hq'⟩
        have fx3 := fx2.ext x3 (by simpa using d.n3)
        rcases hq' with ⟨_, _, rfl, s3, r3⟩ | ⟨hno, _⟩
        · have s2' := s2.ext x3
          have nf := f1.lt
          have nr := d1.r.o.lt
          simp [u4, s2'.len, s3.len]
          refine Tells.bind (tellsCmp hX s2' s3 (by omega) (by simp) (by simp) (by simp) (by simp)) ?_
          rintro ⟨ex, t'⟩ h4 ⟨rfl, k13, x4, kt⟩
          simp only at k13 kt
          simp [hk]
          refine q _ _ (fun j hj => ?_) k13 ⟨bq', kv, _, _, false, false, .nils, [], .nils, [], .nils, ⟨(fx3.ext x4 (by simp)).mono (by omega), (p2.eo x3 (by simpa using d.n4) (by simp; omega) (by simpa using .inl r2.o.2.1)).e x4, r3.ext x4 (by simp), Rel.new _, d.n1, by omega, d.n3, d.n4, by omega⟩, by omega, by omega, by simp⟩
          rw [kt j (by omega)]
          repeat rw [upd_ne _ _ _ _ (by omega)]
        · exact absurd ⟨hst, hee⟩ hno
      · simp [t9]
        refine Tells.bind (rturn_Open hX r2 (by omega) (e := ep + 1 + z.tdiv 6) (by omega)) ?_
        rintro a' h3 ⟨x3, hq'⟩
        rcases hq' with ⟨h1, h2, _⟩ | ⟨_, rfl, rfl⟩
        · exact absurd ⟨h1, h2⟩ hno
        · have hl0 : lenL .nils = some (I 0) := rfl
          simp [u4, hl0]
          refine Tells.bind (tellsCmp hX (cs := []) Sl.nil Sl.nil (by simp) (by simp) (by simp) (by simp) (by simp)) ?_
          rintro ⟨ex, t'⟩ h4 ⟨rfl, k13, x4, kt⟩
          simp only at k13 kt
          simp [hk]
          refine q _ _ (fun j hj => ?_) k13 ⟨bq, kv, qs, ep, st, rd, pv, cs, sv, S, rv, ⟨(f1.ext x4 (by simp)).mono (by omega), d1.p.e x4, d1.r.ext x4 (by simp), d.rel, d.n1, d.n2, d.n3, d.n4, d.n5⟩, by omega, by omega, by omega⟩
          rw [kt j (by omega)]
          repeat rw [upd_ne _ _ _ _ (by omega)]
end
end Go.Proofs.Ytebkohdmoaginaa
