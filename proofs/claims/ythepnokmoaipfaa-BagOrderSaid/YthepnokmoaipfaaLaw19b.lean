/-
  Law BagOrder: the walk.
-/
import Derived.Test.YthepnokmoaipfaaLaw19a
set_option linter.unusedVariables false
set_option linter.unusedSimpArgs false
namespace Go.Proofs.Ythepnokmoaipfaa
open Go.Ab

section
variable {X : XTab}

theorem Feed.off {h : Heap} {bf k : Nat} {α : Type} {r : Rp α} {v : AVal} {xs : List α} (f : Feed h bf k) (o : Sl r h v xs) : bf ∉ v.blks := fun hb => by
  have := (o.blk bf hb).1
  rw [f.m] at this; cases this

/-- What holds after i rounds. -/
structure OInv (i kf ll : Nat) (t3 t4 t5 : AVal) (g : Heap) (bf bp : Nat) (s : AVal) (l : List Dgram) : Prop where
  t3 : t3 = .ptr bf 0
  t4 : t4 = .ptr bp 0
  ne : bf ≠ bp
  f : Feed g bf kf
  b : BagR g bp s l
  w : Gl intR Heap.empty g t5 (l.map (·.from_))
  len : l.length ≤ ll
  dj : ∀ b, b ∈ t5.blks → b ∉ s.blks

/-- The bag has another list. -/
theorem OInv.bag {i kf ll : Nat} {t3 t4 t5 : AVal} {g g' : Heap} {bf bp : Nat} {s s' : AVal} {l l' : List Dgram} (o : OInv i kf ll t3 t4 t5 g bf bp s l) (r : BagR g' bp s' l') (x : Ext (bp :: s.blks) g g') (z : ∀ b, b ∈ s'.blks → b ∈ s.blks ∨ g.next ≤ b) :
    Feed g' bf kf ∧ Gl intR Heap.empty g' t5 (l.map (·.from_)) ∧ ∀ b, b ∈ t5.blks → b ∉ s'.blks := by
  refine ⟨o.f.ext x ?_, o.w.ext x fun b hb q => ?_, fun b hb q => ?_⟩
  · intro q
    rcases List.mem_cons.1 q with q | q
    · exact o.ne q
    · exact o.f.off o.b.2.1.1 q
  · rcases List.mem_cons.1 q with q | q
    · subst q; exact o.w.1.ob o.b.1 hb
    · exact o.dj b hb q
  · rcases z b q with q | q
    · exact o.dj b hb q
    · have := (o.w.1.blk b hb).2; omega

theorem orderTail (hX : OnlyKnown X) {Q : Ex × T → Heap → Prop} {i kf ll : Nat} {t : T} {g : Heap} {bf bp : Nat} {s : AVal} {l : List Dgram} (t6 : t 6 = I i) (hi : i < 40) (o : OInv i kf ll (t 3) (t 4) (t 5) g bf bp s l)
    (hQ : ∀ t' : T, t' 3 = t 3 → t' 4 = t 4 → t' 5 = t 5 → t' 6 = I (i + 1) → Q (.normal, t') g) :
    Tells (fun m => J_precentorlaw19_BagOrder_4 Try.prog (acallX Try.prog X m) m (blkK 1 (sqK (J_precentorlaw19_BagOrder_3 Try.prog (acallX Try.prog X m) m okK) okK)) t g) Q := by
  unfold J_precentorlaw19_BagOrder_4
  simp [o.t4]
  refine Tells.bind (bag_Len hX o.b) ?_
  rintro _ g ⟨rfl, rfl⟩
  have w : IntKind.i64.wrap ((i : Int) + 1) = i + 1 := wrap_id (by omega) (by omega)
  simp [o.w.1.len, J_precentorlaw19_BagOrder_3, t6, w]
  exact Tells.ok (hQ _ (by simp) (by simp) (by simp) (by simp))

theorem map_set (l : List Dgram) (k : Nat) : (l.eraseIdx k).map (·.from_) = (l.map (·.from_)).eraseIdx k := by
  rw [List.eraseIdx_eq_take_drop_succ, List.eraseIdx_eq_take_drop_succ]; simp

theorem orderStep (hX : OnlyKnown X) {Q : Ex × T → Heap → Prop} {i : Nat} {t : T} {g : Heap} {bf bp : Nat} {s : AVal} {l : List Dgram} (t6 : t 6 = I i) (hi : i < 40) (o : OInv i (2 * i) (2 * i) (t 3) (t 4) (t 5) g bf bp s l)
    (hQ : ∀ (t' : T) g' s' l', t' 6 = I ((i + 1 : Nat) : Int) → OInv (i + 1) (2 * (i + 1)) (2 * (i + 1)) (t' 3) (t' 4) (t' 5) g' bf bp s' l' → Q (.normal, t') g') :
    Tells (fun m => L_precentorlaw19_BagOrder_1 Try.prog (acallX Try.prog X m) m t g) Q := by
  have tail : ∀ {t' : T} {g' : Heap} {s' : AVal} {l' : List Dgram}, t' 6 = I i → OInv i (2 * (i + 1)) (2 * (i + 1)) (t' 3) (t' 4) (t' 5) g' bf bp s' l' →
      Tells (fun m => J_precentorlaw19_BagOrder_4 Try.prog (acallX Try.prog X m) m (blkK 1 (sqK (J_precentorlaw19_BagOrder_3 Try.prog (acallX Try.prog X m) m okK) okK)) t' g') Q := by
    intro t' g' s' l' t6' o'
    refine orderTail hX t6' hi o' fun t2 e3 e4 e5 e6 => hQ t2 g' s' l' (by rw [e6]; simp) ?_
    rw [e3, e4, e5]
    exact ⟨o'.t3, o'.t4, o'.ne, o'.f, o'.b, o'.w, o'.len, o'.dj⟩
  have h600 := o.len
  have hok := o.b.2.2.1
  unfold L_precentorlaw19_BagOrder_1
  simp [t6, show (i : Int) < 40 by omega, J_precentorlaw19_BagOrder_2, o.t3]
  refine Tells.bind (Next hX 4 ⟨by omega, by omega⟩ o.f (by omega)) ?_
  rintro _ h1 ⟨c, rfl, c0, c1, _, x1, f1⟩
  have c1 := c1 (by omega)
  have b1 : BagR h1 bp s l := o.b.ext x1 (by simpa using Ne.symm o.ne) (fun b hb q => by simp at q; subst q; exact o.f.off o.b.2.1.1 hb)
  have w1 := o.w.extO x1 (by simp [o.f.m])
  have o1 : OInv i (2 * i + 1) (2 * i) (t 3) (t 4) (t 5) h1 bf bp s l := ⟨o.t3, o.t4, o.ne, f1, b1, w1, o.len, o.dj⟩
  have two : ∀ t' : T, t' 3 = t 3 → t' 4 = t 4 → t' 5 = t 5 → t' 6 = t 6 → t' 43 = .bool true →
      Tells (fun m => J_precentorlaw19_BagOrder_5 Try.prog (acallX Try.prog X m) m (blkK 2 (sqK (J_precentorlaw19_BagOrder_4 Try.prog (acallX Try.prog X m) m (blkK 1 (sqK (J_precentorlaw19_BagOrder_3 Try.prog (acallX Try.prog X m) m okK) okK))) (blkK 1 (sqK (J_precentorlaw19_BagOrder_3 Try.prog (acallX Try.prog X m) m okK) okK)))) t' h1) Q := by
    intro t' e3 e4 e5 e6 e43
    unfold J_precentorlaw19_BagOrder_5
    have w : IntKind.i64.wrap ((i : Int) + 100) = i + 100 := wrap_id (by omega) (by omega)
    simp [e43, e6, t6, w]
    refine Tells.bind (datagram hX i h1) ?_
    rintro _ h2 ⟨d2, rfl, k2, x2⟩
    try simp [w]
    refine Tells.bind (datagram hX (i + 100) h2) ?_
    rintro _ h3 ⟨d3, rfl, k3, x3⟩
    try simp
    refine Tells.lit (r := dgR) (xs := [dgOf i, dgOf (i + 100)]) (css := [d2, d3]) (by rfl) ⟨dgR.ext k2 x3, k3, trivial⟩ (by rfl) (by simp) (lit2 (dgR.ext k2 x3) k3) fun v4 h4 g4 x4 _ => ?_
    have x14 := (x2.trans x3).trans x4
    have o4 : OInv i (2 * i + 1) (2 * i) (t 3) (t 4) (t 5) h4 bf bp s l := ⟨o.t3, o.t4, o.ne, f1.e x14, b1.e x14, w1.e x14, o.len, o.dj⟩
    simp [e4, o.t4]
    refine Tells.bind (bag_Put hX o4.b g4.1 (two_ok _ _) (by simp)) ?_
    rintro _ h5 ⟨rfl, s5, b5, x5, z5⟩
    obtain ⟨f5, w5, dj5⟩ := o4.bag b5 x5 z5
    have m2 : min 2 (600 - l.length) = 2 := by omega
    have ep : putL l [dgOf i, dgOf (i + 100)] = l ++ [dgOf i, dgOf (i + 100)] := by
      unfold putL
      have : 600 - l.length = (598 - l.length) + 2 := by omega
      rw [this]; simp
    rw [ep] at b5
    simp [m2, J_precentorlaw19_BagOrder_6, e5, e6, t6, w]
    refine Tells.lit (r := intR) (xs := [(i : Int), i + 100]) (css := [[I i], [I (i + 100)]]) (by rfl) ⟨rfl, rfl, trivial⟩ (by rfl) (by rfl) (by simp [bslR, fillR, splice]) fun v6 h6 g6 x6 _ => ?_
    refine Tells.appN (w5.e x6) g6.1 (by rfl) (by simp; omega) (by decide) (by simp [Heap.empty, Heap.next]) fun s7 h7 g7 x7 y7 z7 => ?_
    try simp
    have b7 := (b5.e x6).ext x7 (w5.1.ob b5.1) (fun b hb q => dj5 b q hb)
    refine tail (by simp [e6, t6]) ⟨by simp [e3, o.t3], by simp [e4, o.t4], o.ne, ((f5.e x6).ext x7 (f5.off w5.1)).mono (by omega), b7, by simpa [dgOf] using g7, by simp; omega, ?_⟩
    intro b hb q
    have hb : b ∈ s7.blks := by simpa using hb
    rcases z7 b hb with k | k
    · exact dj5 b k q
    · have := (b5.2.1.1.blk b q).2; have := x6.next; omega
  by_cases h0 : c = 0
  · subst h0
    simp
    exact two _ (by simp) (by simp) (by simp) (by simp) (by simp)
  by_cases h1' : c = 1
  · subst h1'
    simp
    exact two _ (by simp) (by simp) (by simp) (by simp) (by simp)
  by_cases h2' : c = 2
  · subst h2'
    have wl : IntKind.i64.wrap ((l.length : Int) + 1) = l.length + 1 := wrap_id (by omega) (by omega)
    simp [J_precentorlaw19_BagOrder_5, o.t3, w1.1.len, wl]
    refine Tells.bind (Next hX _ ⟨by omega, by omega⟩ f1 (by omega)) ?_
    rintro _ h2 ⟨k, rfl, k0, k1, _, x2, f2⟩
    have k1 := k1 (by omega)
    have b2 : BagR h2 bp s l := b1.ext x2 (by simpa using Ne.symm o.ne) (fun b hb q => by simp at q; subst q; exact f1.off b1.2.1.1 hb)
    have o2 : OInv i (2 * i + 2) (2 * i) (t 3) (t 4) (t 5) h2 bf bp s l := ⟨o.t3, o.t4, o.ne, f2, b2, w1.extO x2 (by simp [f1.m]), o.len, o.dj⟩
    simp [o.t4]
    refine Tells.bind (bag_Twice hX k ⟨by omega, by omega⟩ b2) ?_
    rintro v h3 ⟨s3, p3, q3, x3, z3⟩
    by_cases hk : k < l.length
    · obtain ⟨d, hd⟩ : ∃ d, l[k.toNat]? = some d := ⟨_, List.getElem?_eq_getElem (by omega)⟩
      obtain ⟨rfl, b3⟩ := p3 d k0 hd
      obtain ⟨f3, w3, dj3⟩ := o2.bag b3 x3 z3
      have hl6 : l.length < 600 := by omega
      have ep : putL l [d] = l ++ [d] := by
        unfold putL
        have : 600 - l.length = (599 - l.length) + 1 := by omega
        rw [this]; simp
      rw [ep] at b3
      obtain ⟨b, p, B, i1, i2, i3⟩ := w3.1.atI (i := k.toNat) (x := d.from_) (by simp [hd])
      rw [show ((k.toNat : Nat) : Int) = k by omega] at i1
      simp [hl6, hk, Try.underlying4, J_precentorlaw19_BagOrder_7, w3.1.len, i1, i2, i3]
      refine Tells.app1 w3 (by rfl) (by rfl) (show intR.rep h3 [I d.from_] d.from_ from rfl) (by rfl) (by rfl) (by simp; omega) (by decide) (by simp [Heap.empty, Heap.next]) fun s4 h4 g4 x4 y4 z4 => ?_
      try simp
      refine tail (by simp [t6]) ⟨by simp [o.t3], by simp [o.t4], o.ne, (f3.ext x4 (f3.off w3.1)).mono (by omega), b3.ext x4 (w3.1.ob b3.1) (fun b hb q => dj3 b q hb), by simpa using g4, by simp; omega, ?_⟩
      intro b hb q
      have hb : b ∈ s4.blks := by simpa using hb
      rcases z4 b hb with z | z
      · exact dj3 b z q
      · have := (b3.2.1.1.blk b q).2; omega
    · obtain ⟨rfl, b3⟩ := q3 (.inr (by omega))
      obtain ⟨f3, w3, dj3⟩ := o2.bag b3 x3 z3
      simp [hk, Try.underlying4, J_precentorlaw19_BagOrder_7, w3.1.len]
      exact tail (by simp [t6]) ⟨by simp [o.t3], by simp [o.t4], o.ne, f3.mono (by omega), b3, by simpa using w3, by omega, by simpa using dj3⟩
  · simp [beq_eq_false_iff_ne.2 h0, beq_eq_false_iff_ne.2 h1', beq_eq_false_iff_ne.2 h2', J_precentorlaw19_BagOrder_5, o.t4]
    refine Tells.bind (bag_Take hX 0 ⟨by omega, by omega⟩ b1) ?_
    rintro v h2 ⟨p2, q2⟩
    cases hl : l with
    | nil =>
      obtain ⟨rfl, b2, x2⟩ := q2 (.inr (by simp [hl]))
      simp
      refine Tells.newSt (by rfl) (by rfl) (by rfl) (by rfl) fun h3 bd o3 x3 l3 => ?_
      have x13 := x2.trans x3
      have w3 := w1.e x13
      rw [hl] at w3
      have len3 := w3.1.len
      simp [len3, Try.underlying4, J_precentorlaw19_BagOrder_8]
      refine tail (s' := s) (l' := l) (by simp [t6]) ⟨by simp [o.t3], by simp [o.t4], o.ne, (f1.e x13).mono (by omega), b2.e x3, by simpa using w1.e x13, by omega, by simpa using o.dj⟩
    | cons d r =>
      obtain ⟨c2, s2, rfl, k2, b2, x2, z2⟩ := p2 d (by omega) (by simp [hl])
      obtain ⟨f2, w2, dj2⟩ := o1.bag b2 x2 z2
      have er : l.eraseIdx (0 : Int).toNat = r := by simp [hl]
      rw [er] at b2
      rw [hl] at w2
      obtain ⟨u2, rfl, q2'⟩ := k2
      simp
      refine Tells.newSt (by rfl) (by rfl) (by rfl) (by simp [q2'.one]) fun h3 bd o3 x3 l3 => ?_
      have w3 := w2.e x3
      have len3 := w3.1.len
      obtain ⟨b, p, B, i1, i2, i3⟩ := w3.1.atI (i := 0) (x := d.from_) (by simp)
      have i1 : ixsR 1 (t 5) (.int .i64 0) = some (.ptr b p) := by simpa using i1
      have hpos : (0 : Int) < (r.length : Int) + 1 := by omega
      obtain ⟨v3, e3, sl3, bl3⟩ := w3.1.dropR (n := 1) rfl (lo := 1) (by simp)
      have g3 : Gro Heap.empty h3 intR.n v3 := Gro.dropR (n := intR.n) (lo := 1) w3.2 e3 (fun m hm => by rw [len3] at hm; simp at hm; omega)
      have e3 : slcR 1 (t 5) (some (.int .i64 1)) none none = some v3 := by simpa using e3
      simp [len3, Try.underlying4, J_precentorlaw19_BagOrder_8, o3.1, i1, i2, i3, hpos, e3]
      have hlr : r.length ≤ 2 * (i + 1) := by have := o.len; rw [hl] at this; simp at this; omega
      exact tail (s' := s2) (l' := r) (by simp [t6]) ⟨by simp [o.t3], by simp [o.t4], o.ne, (f2.e x3).mono (by omega), b2.e x3, ⟨by simpa using sl3, by simpa using g3⟩, hlr, by simpa [bl3] using dj2⟩

theorem order (hX : OnlyKnown X) (hk : X F_precentorlaw19_known [] = none) {h : Heap} {v : AVal} {xs : List Int} (ol : RawInts h v xs) :
    Tells (fun m => acallX Try.prog X m F_precentorlaw19_BagOrder [v] h) fun a h' => a = .bool true := by
  refine R_precentorlaw19_BagOrder _ (hX _ _ rfl) ?_
  refine Tells.prot fun Q' hQ => ?_
  unfold S_precentorlaw19_BagOrder
  simp [bldR, fillR, splice, ol.sl.known, ol.sl.cells]
  refine Tells.box rfl rfl fun h1 bf f1 x1 l1 => ?_
  have fd1 := RawInts.feed (ol.ext x1) f1
  try simp
  refine Tells.newSt (by rfl) (by rfl) (by rfl) (by rfl) fun h2 bp o2 x2 l2 => ?_
  have hne : bf ≠ bp := by have := fd1.lt; omega
  try simp
  refine Tells.bind (Tells.loop (fun n t g => ∃ (i : Nat) (s : AVal) (l : List Dgram), t 6 = I i ∧ i + n = 40 ∧ OInv i (2 * i) (2 * i) (t 3) (t 4) (t 5) g bf bp s l) (Q := fun p g => p.1 = .exit 0) ?_ 40 _ _ ?_) ?_
  · rintro n t g ⟨i, s, l, t6, hi, o⟩
    by_cases h40 : i < 40
    · refine orderStep hX t6 h40 o fun t' g' s' l' e6 o' => .inl ⟨rfl, n - 1, by omega, i + 1, s', l', e6, by omega, o'⟩
    · unfold L_precentorlaw19_BagOrder_1
      simp [t6, show ¬ (i : Int) < 40 by omega]
      exact Tells.ok (.inr ⟨by simp, rfl⟩)
  · exact ⟨0, .nils, [], by simp, by omega, ⟨by simp, by simp, hne, fd1.e x2, ⟨by simpa using o2, Gl.nil, by simp, by simp⟩, by simpa using Gl.nil, by simp, by simp [AVal.blks]⟩⟩
  · rintro ⟨ex, t⟩ g rfl
    simp [J_precentorlaw19_BagOrder_0]
    refine Tells.bind (known19 hX hk g) ?_
    rintro _ h9 ⟨rfl, x9⟩
    try simp
    exact Tells.ok (hQ _ _ rfl)

end
end Go.Proofs.Ythepnokmoaipfaa
