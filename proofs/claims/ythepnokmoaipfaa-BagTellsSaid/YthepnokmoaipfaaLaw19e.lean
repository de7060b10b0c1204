/-
  Law BagTells: the walk.
-/
import Derived.Test.YthepnokmoaipfaaLaw19d
set_option linter.unusedVariables false
set_option linter.unusedSimpArgs false
namespace Go.Proofs.Ythepnokmoaipfaa
open Go.Ab

/-- A row that was handed in. -/
structure ArgD (h : Heap) (v : AVal) (ds : List Dgram) : Prop where
  sl : SlZ dgA h v ds
  small : ∀ d, d ∈ ds → d.bytes.length < 2 ^ 63
  len : ds.length < 2 ^ 63
theorem ArgD.ext {S : List Nat} {h h' : Heap} {v : AVal} {ds : List Dgram} (o : ArgD h v ds) (e : Ext S h h') : ArgD h' v ds := ⟨o.sl.ext e, o.small, o.len⟩

section
variable {X : XTab}

/-- What holds after i rounds. -/
structure TInv (ll : Nat) (g : Heap) (bf kf bp rp : Nat) (s u v : AVal) (l ds : List Dgram) : Prop where
  f : Feed g bf kf
  b : BagR g bp s l
  r : BagR g rp u l
  a : ArgD g v ds
  len : l.length ≤ ll
  n1 : bf ≠ bp
  n2 : bf ≠ rp
  n3 : bp ≠ rp
  dj : ∀ b, b ∈ s.blks → b ∉ u.blks

theorem TInv.e {ll : Nat} {g g' : Heap} {bf kf bp rp : Nat} {s u v : AVal} {l ds : List Dgram} (o : TInv ll g bf kf bp rp s u v l ds) (x : Ext [] g g') : TInv ll g' bf kf bp rp s u v l ds :=
  ⟨o.f.e x, o.b.e x, o.r.e x, o.a.ext x, o.len, o.n1, o.n2, o.n3, o.dj⟩
theorem Feed.off' {h : Heap} {bf k : Nat} {α : Type} {r : Rp α} {v : AVal} {xs : List α} (f : Feed h bf k) (o : Sl r h v xs) : bf ∉ v.blks := fun hb => by
  have := (o.blk bf hb).1
  rw [f.m] at this; cases this
/-- Both bags have another list. -/
theorem TInv.both {ll ll' kf' : Nat} {g g1 g2 : Heap} {bf kf bp rp : Nat} {s u v s' u' : AVal} {l l' ds : List Dgram} (o : TInv ll g bf kf bp rp s u v l ds) (b1 : BagR g1 bp s' l') (x1 : Ext (bp :: s.blks) g g1) (z1 : ∀ b, b ∈ s'.blks → b ∈ s.blks ∨ g.next ≤ b)
    (r2 : BagR g2 rp u' l') (x2 : Ext (rp :: u.blks) g1 g2) (z2 : ∀ b, b ∈ u'.blks → b ∈ u.blks ∨ g1.next ≤ b) (hl : l'.length ≤ ll') (hk : kf ≤ kf') : TInv ll' g2 bf kf' bp rp s' u' v l' ds := by
  have ub := fun b hb => (o.r.2.1.1.blk b hb).2
  have hs : ∀ b, b ∈ s'.blks → b ∉ rp :: u.blks := fun b hb q => by
    rcases List.mem_cons.1 q with q | q
    · have := (b1.2.1.1.blk b hb).1
      have h2 := r2.1.2.1
      rw [q] at this
      have hm := x2.isM rp (by have := o.r.1.lt; have := x1.next; omega)
      rw [hm] at h2
      rw [this] at h2; cases h2
    · rcases z1 b hb with z | z
      · exact o.dj b z q
      · have := ub b q; omega
  refine ⟨((o.f.ext x1 ?_).ext x2 ?_).mono hk, b1.ext x2 ?_ hs, r2, (o.a.ext x1).ext x2, hl, o.n1, o.n2, o.n3, fun b hb q => ?_⟩
  · intro q
    rcases List.mem_cons.1 q with q | q
    · exact o.n1 q
    · exact o.f.off' o.b.2.1.1 q
  · intro q
    rcases List.mem_cons.1 q with q | q
    · exact o.n2 q
    · exact o.f.off' o.r.2.1.1 q
  · intro q
    rcases List.mem_cons.1 q with q | q
    · exact o.n3 q
    · exact o.r.2.1.1.ob (o.b.1) q
  · rcases z2 b q with z | z
    · exact hs b hb (by simp [z])
    · have := (b1.2.1.1.blk b hb).2; omega
/-- The document's bag, when the program's has changed. -/
theorem TInv.mid {ll : Nat} {g g1 : Heap} {bf kf bp rp : Nat} {s u v : AVal} {l ds : List Dgram} (o : TInv ll g bf kf bp rp s u v l ds) (x1 : Ext (bp :: s.blks) g g1) : BagR g1 rp u l := by
  refine o.r.ext x1 ?_ fun b hb q => ?_
  · intro q
    rcases List.mem_cons.1 q with q | q
    · exact o.n3 q.symm
    · exact o.b.2.1.1.ob o.r.1 q
  · rcases List.mem_cons.1 q with q | q
    · subst q; exact o.r.2.1.1.ob o.b.1 hb
    · exact o.dj b q hb
/-- .. the other way round. -/
theorem TInv.swap {ll : Nat} {g : Heap} {bf kf bp rp : Nat} {s u v : AVal} {l ds : List Dgram} (o : TInv ll g bf kf bp rp s u v l ds) : TInv ll g bf kf rp bp u s v l ds := ⟨o.f, o.r, o.b, o.a, o.len, o.n2, o.n1, Ne.symm o.n3, fun b hb q => o.dj b q hb⟩

/-- The end of a round: both are asked. -/
theorem tellsTail (hX : OnlyKnown X) {Q : Ex × T → Heap → Prop} {i kf ll : Nat} {t : T} {g : Heap} {bf bp rp : Nat} {s u v : AVal} {l ds : List Dgram} (t6 : t 6 = .ptr bp 0) (t7 : t 7 = .ptr rp 0) (t8 : t 8 = I i) (hi : i < 30) (o : TInv ll g bf kf bp rp s u v l ds)
    (hQ : ∀ t' g', t' 1 = t 1 → t' 5 = t 5 → t' 6 = t 6 → t' 7 = t 7 → t' 8 = I ((i : Int) + 1) → Ext [] g g' → Q (.normal, t') g') :
    Tells (fun m => J_precentorlaw19_BagTells_4 Try.prog (acallX Try.prog X m) m (blkK 1 (sqK (J_precentorlaw19_BagTells_3 Try.prog (acallX Try.prog X m) m okK) okK)) t g) Q := by
  have h6 := o.b.2.2.2
  unfold J_precentorlaw19_BagTells_4
  simp [t6]
  refine Tells.cbE (bag_Len hX o.b) ?_
  rintro _ g ⟨rfl, rfl⟩
  simp [t7, o.r.1.1, o.r.2.1.1.len]
  refine Tells.cbE (bag_All hX o.b) ?_
  rintro va g1 ⟨ga, x1⟩
  have r1 := o.r.e x1
  have sa : Sl dgR g1 va l := by
    obtain ⟨⟨css, q1, q2⟩, _⟩ := ga
    exact ⟨css, q1, q2.imp fun _ _ k => dgF.dg k⟩
  simp [r1.1.1, o.r.1.1]
  refine Tells.cbE (same19 hX sa r1.2.1.1 (by omega)) ?_
  rintro _ g2 ⟨rfl, rfl⟩
  have w : IntKind.i64.wrap ((i : Int) + 1) = i + 1 := wrap_id (by omega) (by omega)
  simp [J_precentorlaw19_BagTells_3, t8, w]
  exact Tells.ok (hQ _ _ (by simp) (by simp) (by simp [t6]) (by simp [t7]) (by simp) x1)

/-- A number was taken. -/
theorem TInv.feed {ll : Nat} {g g' : Heap} {bf kf kf' bp rp : Nat} {s u v : AVal} {l ds : List Dgram} (o : TInv ll g bf kf bp rp s u v l ds) (f : Feed g' bf kf') (x : Ext [bf] g g') : TInv ll g' bf kf' bp rp s u v l ds :=
  ⟨f, o.b.ext x (by simpa using Ne.symm o.n1) (fun b hb q => by simp at q; subst q; exact o.f.off' o.b.2.1.1 hb), o.r.ext x (by simpa using Ne.symm o.n2) (fun b hb q => by simp at q; subst q; exact o.f.off' o.r.2.1.1 hb), o.a.ext x, o.len, o.n1, o.n2, o.n3, o.dj⟩

/-- Some datagrams of those that were handed in, cut short. -/
theorem tellsSome (hX : OnlyKnown X) {i : Nat} {t : T} {g : Heap} {v : AVal} {ds : List Dgram} (t1 : t 1 = v) (t8 : t 8 = I i) (t10 : t 10 = .nils) (t11 : t 11 = I 0) (hi : i < 30) (o : ArgD g v ds) :
    Tells (fun m => loopN (L_precentorlaw19_BagTells_7 Try.prog (acallX Try.prog X m) m) m t g) fun p g' => p.1 = .exit 3 ∧ p.2 1 = t 1 ∧ p.2 5 = t 5 ∧ p.2 6 = t 6 ∧ p.2 7 = t 7 ∧ p.2 8 = t 8 ∧ ∃ xs, Gl dgR g g' (p.2 10) xs ∧ xs.length ≤ 3 ∧ (∀ x, x ∈ xs → x.ok) ∧ Ext [] g g' := by
  refine Tells.loop (fun n t' g' => ∃ (j : Nat) (xs : List Dgram), t' 1 = v ∧ t' 5 = t 5 ∧ t' 6 = t 6 ∧ t' 7 = t 7 ∧ t' 8 = I i ∧ t' 11 = I j ∧ j + n = 3 ∧ xs.length = j ∧ Gl dgR g g' (t' 10) xs ∧ (∀ x, x ∈ xs → x.ok) ∧ Ext [] g g') ?_ 3 _ _ ?_
  · rintro n t' g' ⟨j, xs, e1, e5, e6, e7, e8, e11, hj, hl, ga, ok, x⟩
    have oa := o.ext x
    have stop : ∀ t2 : T, t2 1 = v → t2 5 = t 5 → t2 6 = t 6 → t2 7 = t 7 → t2 8 = I i → t2 10 = t' 10 → ((Ex.exit 3 ≠ Ex.normal ∧ Ex.exit 3 = Ex.exit 3 ∧ t2 1 = t 1 ∧ t2 5 = t 5 ∧ t2 6 = t 6 ∧ t2 7 = t 7 ∧ t2 8 = t 8 ∧ ∃ xs, Gl dgR g g' (t2 10) xs ∧ xs.length ≤ 3 ∧ (∀ x, x ∈ xs → x.ok) ∧ Ext [] g g')) := by
      intro t2 k1 k5 k6 k7 k8 k10
      exact ⟨by simp, rfl, by rw [k1, t1], k5, k6, k7, by rw [k8, t8], xs, by rw [k10]; exact ga, by omega, ok, x⟩
    refine Tells.prot fun Q2 hQ2 => ?_
    unfold L_precentorlaw19_BagTells_7
    by_cases c1 : j < ds.length
    · by_cases c2 : j < 3
      · have c1' : (j : Int) < (ds.length : Int) := by omega
        have c2' : (j : Int) < 3 := by omega
        have hne : (ds.length : Int) ≠ 0 := by omega
        have m0 : 0 ≤ ((i : Int) + j).tmod ds.length := Int.tmod_nonneg _ (by omega)
        have m1 : ((i : Int) + j).tmod ds.length < ds.length := Int.tmod_lt_of_pos _ (by omega)
        obtain ⟨d, hd⟩ : ∃ d, ds[(((i : Int) + j).tmod ds.length).toNat]? = some d := ⟨_, List.getElem?_eq_getElem (by omega)⟩
        obtain ⟨b, p, B, c, q1, q2, q3⟩ := (oa.sl.sl (by omega)).at (n := 3) rfl m0 hd
        have hlen : c.length = 3 := dgA.len q3
        have q4 := q2.lda (n := 3) hlen
        simp only [ldn_ptr] at q4
        obtain ⟨u, rfl, hu⟩ := q3
        have w : IntKind.i64.wrap ((i : Int) + j) = i + j := wrap_id (by omega) (by omega)
        have w2 : IntKind.i64.wrap ((j : Int) + 1) = j + 1 := wrap_id (by omega) (by omega)
        simp [e1, e8, e11, oa.sl.len, c1', c2', J_precentorlaw19_BagTells_8, w, aBin_rem _ _ _ _ _ _ _ hne, q1, q4]
        refine Tells.newSt (by rfl) (by rfl) (by rfl) (by simp [hu.one]) fun h1 b1 o1 x1 l1 => ?_
        simp [o1.1]
        refine Tells.bind (few hX (hu.ext x1) (oa.small d (List.mem_of_getElem? hd))) ?_
        rintro r h2 ⟨sr, x2⟩
        try simp
        refine Tells.st1 (o1.e x2) sr.cells sr.one (by simp) fun h3 o3 x3 => ?_
        have xg3 : Ext [] g' h3 := (x1.trans x2).then x3 (by simp; have := x1.next; omega)
        have k3 : dgR.rep h3 [I d.from_, I d.to_, r] ⟨d.from_, d.to_, d.bytes.take 9⟩ := ⟨r, rfl, sr.ext x3⟩
        simp [o3.1]
        refine Tells.app1 (ga.e xg3) (by rfl) (by rfl) k3 (by rfl) (by rfl) (by omega) (by decide) (Nat.le_trans x.next xg3.next) fun s4 h4 g4 x4 y4 z4 => ?_
        simp [J_precentorlaw19_BagTells_9, e11, w2]
        refine Tells.ok (hQ2 _ _ (.inl ⟨rfl, n - 1, by omega, j + 1, xs ++ [⟨d.from_, d.to_, d.bytes.take 9⟩], by simp [e1], by simp [e5], by simp [e6], by simp [e7], by simp [e8], by simp, by omega, by simp [hl], by simpa using g4, ?_, y4 _ (x.trans xg3)⟩))
        intro y hy
        rcases List.mem_append.1 hy with q | q
        · exact ok y q
        · simp at q; subst q; unfold Dgram.ok; simp; omega
      · have c1' : (j : Int) < (ds.length : Int) := by omega
        have c2' : ¬ (j : Int) < 3 := by omega
        simp [e1, e11, oa.sl.len, c1', c2']
        exact Tells.ok (hQ2 _ _ (.inr (stop _ (by simp [e1]) (by simp [e5]) (by simp [e6]) (by simp [e7]) (by simp [e8]) (by simp))))
    · have c1' : ¬ (j : Int) < (ds.length : Int) := by omega
      simp [e1, e11, oa.sl.len, c1']
      exact Tells.ok (hQ2 _ _ (.inr (stop _ (by simp [e1]) (by simp [e5]) (by simp [e6]) (by simp [e7]) (by simp [e8]) (by simp))))
  · exact ⟨0, [], t1, rfl, rfl, rfl, t8, by simpa using t11, by omega, rfl, by rw [t10]; exact Gl.nil, by simp, .refl⟩

/-- Put, with both. -/
theorem tellsPut (hX : OnlyKnown X) {Q : Ex × T → Heap → Prop} {K : Nat → Kn (Ex × T)} {kf ll : Nat} {t : T} {g : Heap} {bf bp rp : Nat} {s u v v10 : AVal} {l ds xs : List Dgram} (t6 : t 6 = .ptr bp 0) (t7 : t 7 = .ptr rp 0) (t10 : t 10 = v10) (o : TInv ll g bf kf bp rp s u v l ds)
    (sx : Sl dgR g v10 xs) (hx : xs.length ≤ 3) (ok : ∀ x, x ∈ xs → x.ok)
    (hQ : ∀ t' g' s' u' l', t' 1 = t 1 → t' 5 = t 5 → t' 6 = t 6 → t' 7 = t 7 → t' 8 = t 8 → TInv (ll + 3) g' bf kf bp rp s' u' v l' ds → Tells (fun m => K m .normal t' g') Q) :
    Tells (fun m => J_precentorlaw19_BagTells_6 Try.prog (acallX Try.prog X m) m (K m) t g) Q := by
  unfold J_precentorlaw19_BagTells_6
  simp [t6, t10]
  refine Tells.bind (bag_Put hX o.b sx ok (by omega)) ?_
  rintro _ g1 ⟨rfl, s1, b1, x1, z1⟩
  simp [t7]
  refine Tells.bind (rbag_Put hX (o.mid x1) (sx.ext x1) ok (by omega)) ?_
  rintro _ g2 ⟨rfl, u1, r1, x2, z2⟩
  simp
  refine hQ _ _ s1 u1 _ (by simp) (by simp) (by simp [t6]) (by simp [t7]) (by simp) (o.both b1 x1 z1 r1 x2 z2 ?_ (Nat.le_refl _))
  have := o.len
  unfold putL
  simp
  omega

theorem zeroDg {h : Heap} : dgR.rep h [I 0, I 0, .nils] ⟨0, 0, []⟩ := ⟨.nils, rfl, Sl.nil⟩

/-- Two datagrams beside one another. -/
theorem sameOne (hX : OnlyKnown X) {β : Type} {Q : β → Heap → Prop} {K : Nat → AVal → AVal → AVal → Heap → Res β} {g : Heap} {c1 c2 : List AVal} {d : Dgram} (k1 : dgR.rep g c1 d) (k2 : dgR.rep g c2 d)
    (hQ : ∀ a b g', Ext [] g g' → Tells (fun m => K m a b (.bool true) g') Q) :
    Tells (fun m => arb (bslR 3 [I 0, I 0, .nils] 1 g [(0, 3, .agg c1)]) (acallX Try.prog X m) fun a h1 => arb (bslR 3 [I 0, I 0, .nils] 1 h1 [(0, 3, .agg c2)]) (acallX Try.prog X m) fun b h2 => arb (.call F_precentorlaw19_same [a, b] h2) (acallX Try.prog X m) (K m a b)) Q := by
  refine Tells.lit (r := dgR) (xs := [d]) (css := [c1]) (by rfl) ⟨k1, trivial⟩ (by rfl) (by simp) (bsl1_agg (by rfl) (dgR.len k1)) fun v1 h1 g1 x1 _ => ?_
  refine Tells.lit (r := dgR) (xs := [d]) (css := [c2]) (by rfl) ⟨dgR.ext k2 x1, trivial⟩ (by rfl) (by simp) (bsl1_agg (by rfl) (dgR.len k2)) fun v2 h2 g2 x2 _ => ?_
  refine Tells.bind (R := fun r h' => r = .bool true ∧ h' = h2) ?_ ?_
  · exact same19 hX (g1.1.ext x2) g2.1 (by simp)
  · rintro _ _ ⟨rfl, rfl⟩
    exact hQ _ _ _ (x1.trans x2)

theorem tellsStep (hX : OnlyKnown X) {Q : Ex × T → Heap → Prop} {i : Nat} {t : T} {g : Heap} {bf bp rp : Nat} {s u v : AVal} {l ds : List Dgram} (t1 : t 1 = v) (t5 : t 5 = .ptr bf 0) (t6 : t 6 = .ptr bp 0) (t7 : t 7 = .ptr rp 0) (t8 : t 8 = I i) (hi : i < 30) (o : TInv (3 * i) g bf (2 * i) bp rp s u v l ds)
    (hQ : ∀ (t' : T) g' s' u' l', t' 1 = v → t' 5 = .ptr bf 0 → t' 6 = .ptr bp 0 → t' 7 = .ptr rp 0 → t' 8 = I ((i + 1 : Nat) : Int) → TInv (3 * (i + 1)) g' bf (2 * (i + 1)) bp rp s' u' v l' ds → Q (.normal, t') g') :
    Tells (fun m => L_precentorlaw19_BagTells_1 Try.prog (acallX Try.prog X m) m t g) Q := by
  have tail : ∀ {t' : T} {g' : Heap} {s' u' : AVal} {l' : List Dgram}, t' 1 = t 1 → t' 5 = t 5 → t' 6 = t 6 → t' 7 = t 7 → t' 8 = t 8 → TInv (3 * i + 3) g' bf (2 * i + 2) bp rp s' u' v l' ds →
      Tells (fun m => J_precentorlaw19_BagTells_4 Try.prog (acallX Try.prog X m) m (blkK 1 (sqK (J_precentorlaw19_BagTells_3 Try.prog (acallX Try.prog X m) m okK) okK)) t' g') Q := by
    intro t' g' s' u' l' e1 e5 e6 e7 e8 o'
    refine tellsTail hX (by rw [e6, t6]) (by rw [e7, t7]) (by rw [e8, t8]) hi o' fun t2 g2 k1 k5 k6 k7 k8 x => hQ t2 g2 s' u' l' (by rw [k1, e1, t1]) (by rw [k5, e5, t5]) (by rw [k6, e6, t6]) (by rw [k7, e7, t7]) (by rw [k8]; simp) ?_
    have := o'.e x
    rw [show 3 * (i + 1) = 3 * i + 3 by omega, show 2 * (i + 1) = 2 * i + 2 by omega]
    exact this
  have hl := o.len
  unfold L_precentorlaw19_BagTells_1
  have wl : IntKind.i64.wrap ((l.length : Int) + 3) = l.length + 3 := wrap_id (by omega) (by omega)
  simp [t8, show (i : Int) < 30 by omega, J_precentorlaw19_BagTells_2, t5, t7, o.r.1.1, o.r.2.1.1.len, wl]
  refine Tells.bind (Next hX _ ⟨by omega, by omega⟩ o.f (by omega)) ?_
  rintro _ g1 ⟨k, rfl, k0, k1, _, x1, f1⟩
  have k1 := k1 (by omega)
  have o1 := o.feed f1 x1
  have wk : IntKind.i64.wrap (k - 1) = k - 1 := wrap_id (by omega) (by omega)
  simp [wk, t5]
  refine Tells.bind (Next hX 6 ⟨by omega, by omega⟩ f1 (by omega)) ?_
  rintro _ g2 ⟨c, rfl, c0, c1, _, x2, f2⟩
  have c1 := c1 (by omega)
  have o2 : TInv (3 * i) g2 bf (2 * i + 2) bp rp s u v l ds := o1.feed f2 x2
  have kk : In64 (k - 1) := ⟨by omega, by omega⟩
  have put : ∀ t' : T, t' 1 = t 1 → t' 5 = t 5 → t' 6 = t 6 → t' 7 = t 7 → t' 8 = t 8 → t' 42 = .bool true →
      Tells (fun m => J_precentorlaw19_BagTells_5 Try.prog (acallX Try.prog X m) m (blkK 2 (sqK (J_precentorlaw19_BagTells_4 Try.prog (acallX Try.prog X m) m (blkK 1 (sqK (J_precentorlaw19_BagTells_3 Try.prog (acallX Try.prog X m) m okK) okK))) (blkK 1 (sqK (J_precentorlaw19_BagTells_3 Try.prog (acallX Try.prog X m) m okK) okK)))) t' g2) Q := by
    intro t' e1 e5 e6 e7 e8 e42
    unfold J_precentorlaw19_BagTells_5
    simp [e42]
    refine Tells.bind (tellsSome hX (t := upd (upd t' 10 .nils) 11 (I 0)) (i := i) (v := v) (ds := ds) (by simp [e1, t1]) (by simp [e8, t8]) (by simp) (by simp) hi o2.a) ?_
    rintro ⟨ex, t3⟩ g3 ⟨rfl, p1, p5, p6, p7, p8, xs, gx, hx, ok, x3⟩
    simp only at p1 p5 p6 p7 p8 gx
    try simp
    refine tellsPut hX (K := fun m => blkK 2 (sqK (J_precentorlaw19_BagTells_4 Try.prog (acallX Try.prog X m) m (blkK 1 (sqK (J_precentorlaw19_BagTells_3 Try.prog (acallX Try.prog X m) m okK) okK))) (blkK 1 (sqK (J_precentorlaw19_BagTells_3 Try.prog (acallX Try.prog X m) m okK) okK)))) (by rw [p6]; simp [e6, t6]) (by rw [p7]; simp [e7, t7]) rfl (o2.e x3) gx.1 hx ok ?_
    intro t4 g4 s4 u4 l4 q1 q5 q6 q7 q8 o4
    simp
    exact tail (by rw [q1, p1]; simp [e1]) (by rw [q5, p5]; simp [e5]) (by rw [q6, p6]; simp [e6]) (by rw [q7, p7]; simp [e7]) (by rw [q8, p8]; simp [e8]) o4
  by_cases h0 : c = 0
  · subst h0
    simp
    exact put _ (by simp) (by simp) (by simp) (by simp) (by simp) (by simp)
  by_cases h1' : c = 1
  · subst h1'
    simp
    exact put _ (by simp) (by simp) (by simp) (by simp) (by simp) (by simp)
  have bq0 : (c == 0) = false := beq_eq_false_iff_ne.2 h0
  have bq1 : (c == 1) = false := beq_eq_false_iff_ne.2 h1'
  by_cases h2' : c = 2
  · subst h2'
    simp [J_precentorlaw19_BagTells_5, t6]
    refine Tells.bind (bag_Take hX (k - 1) kk o2.b) ?_
    rintro va g3 ⟨p3, q3⟩
    by_cases hin : 0 ≤ k - 1 ∧ k - 1 < l.length
    · obtain ⟨d, hd⟩ : ∃ d, l[(k - 1).toNat]? = some d := ⟨_, List.getElem?_eq_getElem (by omega)⟩
      obtain ⟨cx, s3, rfl, kx, b3, x3, z3⟩ := p3 d hin.1 hd
      simp
      refine Tells.newSt (by rfl) (by rfl) (dgR.len kx) (dgR.one kx) fun g4 xp ox x4 l4 => ?_
      have x34 : Ext (bp :: s.blks) g2 g4 := x3.quiet x4
      simp [t7]
      refine Tells.bind (rbag_Take hX (k - 1) kk (o2.mid x34)) ?_
      rintro vb g5 ⟨p5, q5⟩
      obtain ⟨cy, u5, rfl, ky, r5, x5, z5⟩ := p5 d hin.1 hd
      have b4 := b3.e x4
      have o5 := o2.both (ll' := 3 * i + 3) (kf' := 2 * i + 2) b4 x34 (fun b hb => z3 b hb) r5 x5 z5 (by rw [List.length_eraseIdx]; split <;> omega) (by omega)
      have ox5 := ox.ext x5 (by
        intro q
        rcases List.mem_cons.1 q with q | q
        · have := o2.r.1.lt; have := x3.next; omega
        · have := (o2.r.2.1.1.blk _ q).2; have := x3.next; omega)
      simp
      refine Tells.newSt (by rfl) (by rfl) (dgR.len ky) (dgR.one ky) fun g6 yp oy x6 l6 => ?_
      have ox6 := ox5.e x6
      have kx6 := dgR.ext (dgR.ext (dgR.ext kx x4) x5) x6
      have ky6 := dgR.ext ky x6
      have lx : cx.length = 3 := dgR.len kx
      have ly : cy.length = 3 := dgR.len ky
      simp [ox6.1, oy.1, lx, ly, List.take_of_length_le (Nat.le_of_eq lx), List.take_of_length_le (Nat.le_of_eq ly)]
      refine Tells.lit (r := dgR) (xs := [d]) (css := [cx]) (by rfl) ⟨kx6, trivial⟩ (by rfl) (by simp) (bsl1_agg (by rfl) lx) fun v7 g7 ga7 x7 _ => ?_
      have oy7 := oy.e x7
      simp [oy7.1, ly, List.take_of_length_le (Nat.le_of_eq ly)]
      refine Tells.lit (r := dgR) (xs := [d]) (css := [cy]) (by rfl) ⟨dgR.ext ky6 x7, trivial⟩ (by rfl) (by simp) (bsl1_agg (by rfl) ly) fun v8 g8 ga8 x8 _ => ?_
      try simp
      refine Tells.bind (same19 hX (ga7.1.ext x8) ga8.1 (by simp)) ?_
      rintro _ g9 ⟨rfl, rfl⟩
      simp
      exact tail (by simp) (by simp) (by simp [t6]) (by simp [t7]) (by simp) (o5.e ((x6.trans x7).trans x8))
    · obtain ⟨rfl, b3, x3⟩ := q3 (by omega)
      simp
      refine Tells.newSt (by rfl) (by rfl) (by rfl) (by rfl) fun g4 xp ox x4 l4 => ?_
      have o4 := o2.e (x3.trans x4)
      simp [t7]
      refine Tells.bind (rbag_Take hX (k - 1) kk o4.r) ?_
      rintro vb g5 ⟨p5, q5⟩
      obtain ⟨rfl, r5, x5⟩ := q5 (by omega)
      have ox5 := ox.e x5
      simp
      refine Tells.newSt (by rfl) (by rfl) (by rfl) (by rfl) fun g6 yp oy x6 l6 => ?_
      have ox6 := ox5.e x6
      simp [ox6.1, oy.1]
      refine Tells.lit (r := dgR) (xs := [⟨0, 0, []⟩]) (css := [[I 0, I 0, .nils]]) (by rfl) ⟨zeroDg, trivial⟩ (by rfl) (by simp) (bsl1_agg (by rfl) (by rfl)) fun v7 g7 ga7 x7 _ => ?_
      have oy7 := oy.e x7
      simp [oy7.1]
      refine Tells.lit (r := dgR) (xs := [⟨0, 0, []⟩]) (css := [[I 0, I 0, .nils]]) (by rfl) ⟨zeroDg, trivial⟩ (by rfl) (by simp) (bsl1_agg (by rfl) (by rfl)) fun v8 g8 ga8 x8 _ => ?_
      try simp
      refine Tells.bind (same19 hX (ga7.1.ext x8) ga8.1 (by simp)) ?_
      rintro _ g9 ⟨rfl, rfl⟩
      simp
      have o9 := o4.e (((x5.trans x6).trans x7).trans x8)
      exact tail (by simp) (by simp) (by simp [t6]) (by simp [t7]) (by simp) ⟨o9.f, o9.b, o9.r, o9.a, by omega, o9.n1, o9.n2, o9.n3, o9.dj⟩
  have bq2 : (c == 2) = false := beq_eq_false_iff_ne.2 h2'
  by_cases h3' : c = 3
  · subst h3'
    simp [J_precentorlaw19_BagTells_5, t7]
    refine Tells.bind (rbag_Take hX (k - 1) kk o2.r) ?_
    rintro va g3 ⟨p3, q3⟩
    by_cases hin : 0 ≤ k - 1 ∧ k - 1 < l.length
    · obtain ⟨d, hd⟩ : ∃ d, l[(k - 1).toNat]? = some d := ⟨_, List.getElem?_eq_getElem (by omega)⟩
      obtain ⟨cx, s3, rfl, kx, b3, x3, z3⟩ := p3 d hin.1 hd
      simp
      refine Tells.newSt (by rfl) (by rfl) (dgR.len kx) (dgR.one kx) fun g4 xp ox x4 l4 => ?_
      have x34 : Ext (rp :: u.blks) g2 g4 := x3.quiet x4
      simp [t6]
      refine Tells.bind (bag_Drop hX (k - 1) kk (o2.swap.mid x34)) ?_
      rintro _ g5 ⟨u5, rfl, r5, x5, z5⟩
      rw [if_pos hin.1] at r5
      have b4 := b3.e x4
      have o5 := o2.swap.both (ll' := 3 * i + 3) (kf' := 2 * i + 2) b4 x34 (fun b hb => z3 b hb) r5 x5 z5 (by rw [List.length_eraseIdx]; split <;> omega) (by omega)
      have a1 : 1 ≤ k := by omega
      have a2 : k - 1 < (l.length : Int) := hin.2
      simp [a1, a2]
      exact tail (by simp) (by simp) (by simp [t6]) (by simp [t7]) (by simp) o5.swap
    · obtain ⟨rfl, b3, x3⟩ := q3 (by omega)
      simp
      refine Tells.newSt (by rfl) (by rfl) (by rfl) (by rfl) fun g4 xp ox x4 l4 => ?_
      have o4 := o2.e (x3.trans x4)
      simp [t6]
      refine Tells.bind (bag_Drop hX (k - 1) kk o4.b) ?_
      rintro _ g5 ⟨u5, rfl, r5, x5, z5⟩
      have le : (if 0 ≤ k - 1 then l.eraseIdx (k - 1).toNat else l) = l := by
        split
        · exact List.eraseIdx_of_length_le (by omega)
        · rfl
      rw [le] at r5
      have o5 : TInv (3 * i + 3) g5 bf (2 * i + 2) bp rp u5 u v l ds := o4.both (ll' := 3 * i + 3) (kf' := 2 * i + 2) r5 x5 z5 (o4.mid x5) .refl (fun b hb => .inl hb) (by omega) (by omega)
      by_cases a1 : 1 ≤ k
      · have a2 : ¬ k - 1 < (l.length : Int) := by omega
        simp [a1, a2]
        exact tail (by simp) (by simp) (by simp [t6]) (by simp [t7]) (by simp) o5
      · simp [a1]
        exact tail (by simp) (by simp) (by simp [t6]) (by simp [t7]) (by simp) o5
  have bq3 : (c == 3) = false := beq_eq_false_iff_ne.2 h3'
  simp [bq0, bq1, J_precentorlaw19_BagTells_5, bq2, bq3, t6]
  refine Tells.bind (bag_Twice hX (k - 1) kk o2.b) ?_
  rintro va g3 ⟨s3, p3, q3, x3, z3⟩
  simp [t7]
  refine Tells.bind (rbag_Twice hX (k - 1) kk (o2.mid x3)) ?_
  rintro vb g4 ⟨u4, p4, q4, x4, z4⟩
  by_cases hin : 0 ≤ k - 1 ∧ k - 1 < l.length
  · obtain ⟨d, hd⟩ : ∃ d, l[(k - 1).toNat]? = some d := ⟨_, List.getElem?_eq_getElem (by omega)⟩
    obtain ⟨rfl, b3⟩ := p3 d hin.1 hd
    obtain ⟨rfl, r4⟩ := p4 d hin.1 hd
    simp
    exact tail (by simp) (by simp) (by simp [t6]) (by simp [t7]) (by simp) (o2.both (ll' := 3 * i + 3) b3 x3 z3 r4 x4 z4 (by unfold putL; simp; omega) (by omega))
  · obtain ⟨rfl, b3⟩ := q3 (by omega)
    obtain ⟨rfl, r4⟩ := q4 (by omega)
    simp
    exact tail (by simp) (by simp) (by simp [t6]) (by simp [t7]) (by simp) (o2.both (ll' := 3 * i + 3) b3 x3 z3 r4 x4 z4 (by omega) (by omega))

theorem bagTells_ (hX : OnlyKnown X) (hk : X F_precentorlaw19_known [] = none) {h : Heap} {v w : AVal} {xs : List Int} {ds : List Dgram} (ol : RawInts h v xs) (od : ArgD h w ds) :
    Tells (fun m => acallX Try.prog X m F_precentorlaw19_BagTells [v, w] h) fun a h' => a = .bool true := by
  refine R_precentorlaw19_BagTells _ _ (hX _ _ rfl) ?_
  refine Tells.prot fun Q' hQ => ?_
  unfold S_precentorlaw19_BagTells
  simp [bldR, fillR, splice, ol.sl.known, ol.sl.cells]
  refine Tells.box rfl rfl fun h1 bf f1 x1 l1 => ?_
  have fd1 := RawInts.feed (ol.ext x1) f1
  try simp
  refine Tells.newSt (by rfl) (by rfl) (by rfl) (by rfl) fun h2 bp o2 x2 l2 => ?_
  try simp
  refine Tells.newSt (by rfl) (by rfl) (by rfl) (by rfl) fun h3 rp o3 x3 l3 => ?_
  try simp
  have n1 : bf ≠ bp := by have := fd1.lt; omega
  have n2 : bf ≠ rp := by have := fd1.lt; have := x2.next; omega
  have n3 : bp ≠ rp := by have := o2.lt; omega
  refine Tells.bind (Tells.loop (fun n t g => ∃ (i : Nat) (s u : AVal) (l : List Dgram), t 1 = w ∧ t 5 = .ptr bf 0 ∧ t 6 = .ptr bp 0 ∧ t 7 = .ptr rp 0 ∧ t 8 = I i ∧ i + n = 30 ∧ TInv (3 * i) g bf (2 * i) bp rp s u w l ds) (Q := fun p g => p.1 = .exit 0) ?_ 30 _ _ ?_) ?_
  · rintro n t g ⟨i, s, u, l, t1, t5, t6, t7, t8, hi, o⟩
    by_cases h30 : i < 30
    · refine tellsStep hX t1 t5 t6 t7 t8 h30 o fun t' g' s' u' l' e1 e5 e6 e7 e8 o' => .inl ⟨rfl, n - 1, by omega, i + 1, s', u', l', e1, e5, e6, e7, e8, by omega, o'⟩
    · unfold L_precentorlaw19_BagTells_1
      simp [t8, show ¬ (i : Int) < 30 by omega]
      exact Tells.ok (.inr ⟨by simp, rfl⟩)
  · exact ⟨0, .nils, .nils, [], by simp, by simp, by simp, by simp, by simp, by omega, ⟨(fd1.e x2).e x3, ⟨by simpa using o2.e x3, Gl.nil, by simp, by simp⟩, ⟨by simpa using o3, Gl.nil, by simp, by simp⟩, ((od.ext x1).ext x2).ext x3, by simp, n1, n2, n3, by simp [AVal.blks]⟩⟩
  · rintro ⟨ex, t⟩ g rfl
    simp [J_precentorlaw19_BagTells_0]
    refine Tells.bind (known19 hX hk g) ?_
    rintro _ h9 ⟨rfl, x9⟩
    try simp
    exact Tells.ok (hQ _ _ rfl)

end
end Go.Proofs.Ythepnokmoaipfaa
