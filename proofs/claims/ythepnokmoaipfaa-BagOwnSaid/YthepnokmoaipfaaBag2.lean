/-
  What the functions of bag tell of datagrams, where each one's bytes have a class of their own.
-/
import Derived.Test.YthepnokmoaipfaaBag1
import Derived.Test.YthepnokmoaipfaaCls
import Derived.Test.YthepnokmoaipfaaWrE
set_option linter.unusedVariables false
set_option linter.unusedSimpArgs false
namespace Go.Proofs.Ythepnokmoaipfaa
open Go.Ab

/-- A datagram, and where the class of its bytes began. -/
def dgT : Rp (Dgram × Nat) := ⟨3, by decide, fun h cs d => ∃ v, cs = [I d.1.from_, I d.1.to_, v] ∧ Sl byteR h v d.1.bytes ∧ (∀ b, b ∈ v.blks → h.root b = d.2 ∧ h.n0 ≤ b) ∧ d.2 < h.next, fun ⟨v, e, _⟩ => by rw [e]; rfl, fun ⟨v, e, s, _⟩ => by rw [e]; simp [s.one],
  fun ⟨v, e, s, w, k⟩ x => ⟨v, e, s.ext x, fun b hb => ⟨by rw [root_ext x (s.blk b hb).2]; exact (w b hb).1, by rw [x.n0]; exact (w b hb).2⟩, Nat.lt_of_lt_of_le k x.next⟩⟩
theorem dgT.dg {h : Heap} {cs : List AVal} {d : Dgram × Nat} (r : dgT.rep h cs d) : dgR.rep h cs d.1 := by obtain ⟨v, e, s, _⟩ := r; exact ⟨v, e, s⟩
theorem dgT_of {h0 h : Heap} {cs : List AVal} {d : Dgram} (k : (dgF h0).rep h cs d) (hne : d.bytes ≠ []) : ∃ r, dgT.rep h cs (d, r) ∧ h0.next ≤ r := by
  obtain ⟨v, e, s, w⟩ := k
  have s' := s
  obtain ⟨css, s1, a⟩ := s'
  rcases s1 with ⟨rfl, rfl⟩ | ⟨b, off, cap, sz, ex, B, rfl, _, _, h4, h5, _⟩
  · exact absurd s.nils hne
  · obtain ⟨w1, w2, w3⟩ := w b (by simp [AVal.blks])
    refine ⟨h.root b, ⟨_, e, s, fun c hc => ?_, Nat.lt_of_le_of_lt (root_le h b) w3⟩, w1⟩
    simp [AVal.blks] at hc
    subst hc
    exact ⟨rfl, w2⟩

/-- A write into another class. -/
theorem dgT_extC {h h' : Heap} {b : Nat} {cs : List AVal} {d : Dgram × Nat} (x : ExtC b h h') (k : dgT.rep h cs d) (hr : h.root b ≠ d.2) : dgT.rep h' cs d := by
  obtain ⟨v, e, s, w, l⟩ := k
  refine ⟨v, e, s.extC (fun q => q) x (Apart.of fun c hc => by rw [(w c hc).1]; exact Ne.symm hr), fun c hc => ⟨?_, by rw [x.n0]; exact (w c hc).2⟩, by rw [x.next]; exact l⟩
  unfold Heap.root
  rw [x.cls]
  exact (w c hc).1
theorem All2.impM {α β : Type} {R R' : α → β → Prop} : ∀ {l : List α} {m : List β}, (∀ a b, b ∈ m → R a b → R' a b) → All2 R l m → All2 R' l m
  | [], [], _, _ => trivial
  | _ :: _, _ :: _, f, h => ⟨f _ _ (by simp) h.1, All2.impM (fun a b hb => f a b (by simp [hb])) h.2⟩
  | [], _ :: _, _, h => h.elim
  | _ :: _, [], _, h => h.elim
theorem slT_extC {h h' : Heap} {b : Nat} {v : AVal} {l : List (Dgram × Nat)} (x : ExtC b h h') (k : Sl dgT h v l) (a : Apart h b v) (hr : ∀ d, d ∈ l → h.root b ≠ d.2) : Sl dgT h' v l := by
  obtain ⟨css, h1, h2⟩ := k
  exact ⟨css, h1.extC x a, All2.impM (fun c d hd q => dgT_extC x q (hr d hd)) h2⟩

section
variable {X : XTab}

theorem bag_cloneT (hX : OnlyKnown X) {cs : List AVal} {d : Dgram × Nat} {h : Heap} (hd : dgT.rep h cs d) (hk : d.1.ok) (hne : d.1.bytes ≠ []) : Tells (fun q => acallX Try.prog X q F_bag_clone [.agg cs] h) fun v h' => ∃ cs' r', v = .agg cs' ∧ dgT.rep h' cs' (d.1, r') ∧ h.next ≤ r' ∧ Ext [] h h' := by
  refine (bag_clone hX (dgT.dg hd) hk).mono ?_
  rintro v h' ⟨cs', rfl, k, x⟩
  obtain ⟨r, k1, k2⟩ := dgT_of k hne
  exact ⟨cs', r, rfl, k1, k2, x⟩

theorem bag_Put1 (hX : OnlyKnown X) {bp : Nat} {s v : AVal} {l : List (Dgram × Nat)} {d : Dgram × Nat} {h : Heap} (K : Heap → Heap) (ob : Ob h bp [s]) (hs : Sl dgT h s l) (hl : l.length < 600) (hv : Sl dgT h v [d]) (hk : d.1.ok) (hne : d.1.bytes ≠ [])
    (hK : ∀ hM, Ext [] h hM → Gl dgT (K hM) h s l ∧ Wr (K hM) h s ∧ (K hM).next ≤ hM.next) : Tells (fun q => acallX Try.prog X q F_bag_Bag_Put [.ptr bp 0, v] h) fun u h' =>
    u = I 1 ∧ ∃ s' r' hM, Ob h' bp [s'] ∧ h.next ≤ r' ∧ r' < hM.next ∧ hM.next ≤ h'.next ∧ Ext [] h hM ∧ Gl dgT (K hM) h' s' (l ++ [(d.1, r')]) ∧ Wr (K hM) h' s' ∧ Ext (bp :: s.blks) h h' ∧ ∀ b, b ∈ s'.blks → b ∈ s.blks ∨ h.next ≤ b := by
  refine R_bag_Bag_Put _ _ (hX _ _ rfl) ?_
  refine Tells.prot fun Q' hQ => ?_
  unfold S_bag_Bag_Put
  simp [hv.len]
  refine Tells.bind (Tells.loop (fun n t g => ∃ i : Nat, t 0 = .ptr bp 0 ∧ t 8 = v ∧ t 9 = I 1 ∧ t 10 = I i ∧ t 5 = I i ∧ n + i = 1 ∧ (i = 0 → g = h) ∧
      (i = 1 → ∃ s' r' hM, Ob g bp [s'] ∧ h.next ≤ r' ∧ r' < hM.next ∧ hM.next ≤ g.next ∧ Ext [] h hM ∧ Gl dgT (K hM) g s' (l ++ [(d.1, r')]) ∧ Wr (K hM) g s' ∧ Ext (bp :: s.blks) h g ∧ ∀ b, b ∈ s'.blks → b ∈ s.blks ∨ h.next ≤ b))
    (Q := fun p g => p.1 = .exit 0 ∧ p.2 5 = I 1 ∧ ∃ s' r' hM, Ob g bp [s'] ∧ h.next ≤ r' ∧ r' < hM.next ∧ hM.next ≤ g.next ∧ Ext [] h hM ∧ Gl dgT (K hM) g s' (l ++ [(d.1, r')]) ∧ Wr (K hM) g s' ∧ Ext (bp :: s.blks) h g ∧ ∀ b, b ∈ s'.blks → b ∈ s.blks ∨ h.next ≤ b) ?_ 1 _ _ ?_) ?_
  · rintro n t g ⟨i, t0, t8, t9, t10, t5, hi, h0, h1⟩
    refine Tells.prot fun Q2 hQ2 => ?_
    unfold L_bag_Bag_Put_1
    simp [t9, t10]
    refine Tells.cb (fun hc => ?_) (fun hc => ?_)
    · simp at hc
      have hi0 : i = 0 := by omega
      subst hi0
      have hg := h0 rfl
      subst hg
      obtain ⟨b, p, B, c, q1, q2, q3⟩ := hv.at (n := 3) rfl (i := (0 : Int)) (by omega) (x := d) (by simp)
      have hlen : c.length = 3 := dgT.len q3
      have q4 := q2.lda (n := 3) hlen
      simp only [ldn_ptr] at q4
      have hone := dgT.one q3
      have w : IntKind.i64.wrap (1 : Int) = 1 := rfl
      simp [J_bag_Bag_Put_2, t8, t10, t0, q1, q4]
      refine Tells.newSt rfl rfl hlen hone fun h1 b1 o1 x1 l1 => ?_
      have ob1 := ob.e x1
      have c2 : (l.length : Int) < 600 := by omega
      simp [t0, ob1.1, (hs.ext x1).len, c2]
      simp [t0, ob1.1, o1.1, hlen, List.take_of_length_le (Nat.le_of_eq hlen)]
      refine Tells.cbE (bag_cloneT hX (dgT.ext q3 x1) hk hne) ?_
      rintro _ h2 ⟨c2, r2, rfl, k2, z2, x2⟩
      have ob2 := ob1.e x2
      have hl2 : c2.length = 3 := dgT.len k2
      have x12 := x1.trans x2
      obtain ⟨gK, wK, nK⟩ := hK h2 x12
      simp [ob2.1]
      refine Tells.app1WE ((gK.e x1).e x2) ((wK.ext x1).ext x2) (by rfl) (by rfl) k2 (by rfl) (by rfl) (by omega) (by decide) nK fun s3 h3 g3 w3 x3 y3 z3 => ?_
      have o3 := ob2.ext x3 (((hs.ext x1).ext x2).ob ob2)
      try simp
      refine Tells.st1E o3 g3.1.cells g3.1.one (by simp) fun h4 o4 x4 => ?_
      have x03 : Ext (bp :: s.blks) g h3 := ((x1.of).then x2 (by simp)).then x3 fun b hb' => .inl (by simp [hb'])
      have x04 := x03.then x4 (by simp)
      simp [t5, J_bag_Bag_Put_3, t10, w]
      refine Tells.ok (hQ2 _ _ (.inl ⟨rfl, 0, by omega, 1, by simp [t0], by simp [t8], by simp [t9], by simp, by simp, by omega, by omega, fun _ => ⟨s3, r2, h2, by simpa using o4, by have := x1.next; omega, ?_, by have := x3.next; have := x4.next; omega, x12, ?_, w3.ext x4, x04, ?_⟩⟩))
      · obtain ⟨_, _, _, _, k⟩ := k2
        exact k
      · exact g3.ext x4 fun b hb q => g3.1.ob o3 (by simp at q; rw [← q]; exact hb)
      · intro b hb'
        rcases z3 b hb' with k | k
        · exact .inl k
        · right; have := x12.next; omega
    · simp at hc
      have hi1 : i = 1 := by omega
      subst hi1
      exact Tells.ok (hQ2 _ _ (.inr ⟨by simp, rfl, by simp [t5], h1 rfl⟩))
  · exact ⟨0, by simp, by simp, by simp, by simp, by simp, by omega, fun _ => rfl, fun q => by omega⟩
  · rintro ⟨ex, t⟩ g ⟨rfl, t5, hs⟩
    simp only at t5
    simp [J_bag_Bag_Put_0, t5]
    exact Tells.ok (hQ _ _ ⟨rfl, hs⟩)

theorem bag_isG (hX : OnlyKnown X) {α : Type} {R : Rp α} {bp : Nat} {s : AVal} {l : List α} (k : Int) {h : Heap} (ob : Ob h bp [s]) (o : Sl R h s l) : Tells (fun q => acallX Try.prog X q F_bag_Bag_is [.ptr bp 0, I k] h) fun v h' => v = .bool (decide (0 ≤ k) && decide (k < l.length)) ∧ h' = h := by
  refine R_bag_Bag_is _ _ (hX _ _ rfl) ?_
  unfold S_bag_Bag_is
  by_cases hk : 0 ≤ k
  · simp [hk, ob.1, o.len]
    exact Tells.ok ⟨by simp [hk], rfl⟩
  · simp [hk]
    exact Tells.ok ⟨by simp [hk], rfl⟩

theorem bag_LenG (hX : OnlyKnown X) {α : Type} {R : Rp α} {bp : Nat} {s : AVal} {l : List α} {h : Heap} (ob : Ob h bp [s]) (o : Sl R h s l) : Tells (fun q => acallX Try.prog X q F_bag_Bag_Len [.ptr bp 0] h) fun v h' => v = I l.length ∧ h' = h := by
  refine R_bag_Bag_Len _ (hX _ _ rfl) ?_
  unfold S_bag_Bag_Len
  simp [ob.1, o.len]
  exact Tells.ok ⟨rfl, rfl⟩

theorem bag_Twice1 (hX : OnlyKnown X) {bp : Nat} {s : AVal} {l : List (Dgram × Nat)} {d : Dgram × Nat} {h : Heap} (K : Heap → Heap) (ob : Ob h bp [s]) (hs : Sl dgT h s l) (hl : l.length < 600) (hd : l[0]? = some d) (hk : d.1.ok) (hne : d.1.bytes ≠ [])
    (hK : ∀ h1 hM, Ext [] h h1 → Ext [] h1 hM → Gl dgT (K hM) h1 s l ∧ Wr (K hM) h1 s ∧ (K hM).next ≤ hM.next) : Tells (fun q => acallX Try.prog X q F_bag_Bag_Twice [.ptr bp 0, I 0] h) fun u h' =>
    u = .bool true ∧ ∃ s' r' hM, Ob h' bp [s'] ∧ h.next ≤ r' ∧ r' < hM.next ∧ hM.next ≤ h'.next ∧ Ext [] h hM ∧ Gl dgT (K hM) h' s' (l ++ [(d.1, r')]) ∧ Wr (K hM) h' s' ∧ Ext (bp :: s.blks) h h' ∧ ∀ b, b ∈ s'.blks → b ∈ s.blks ∨ h.next ≤ b := by
  refine R_bag_Bag_Twice _ _ (hX _ _ rfl) ?_
  refine Tells.prot fun Q' hQ => ?_
  unfold S_bag_Bag_Twice
  simp
  refine Tells.bind (bag_isG hX 0 ob hs) ?_
  rintro v h ⟨rfl, rfl⟩
  have h0l : 0 < l.length := (List.getElem?_eq_some_iff.1 hd).1
  obtain ⟨b, p, B, c, q1, q2, q3⟩ := hs.at (n := 3) rfl (i := (0 : Int)) (by omega) (by simpa using hd)
  have hlen : c.length = 3 := dgT.len q3
  have q4 := q2.lda (n := 3) hlen
  simp only [ldn_ptr] at q4
  have ht : (decide ((0 : Int) ≤ 0) && decide ((0 : Int) < l.length)) = true := by simp; omega
  simp only [ht]
  simp [ob.1, q1, q4]
  refine Tells.lit (r := dgT) (xs := [d]) (css := [c]) (by rfl) ⟨q3, trivial⟩ (by rfl) (by simp) (bsl1_agg (by rfl) hlen) fun v1 h1 g1 x1 _ => ?_
  try simp
  refine Tells.bind (bag_Put1 hX K (ob.e x1) (hs.ext x1) hl g1.1 hk hne fun hM xM => hK h1 hM x1 xM) ?_
  rintro _ h2 ⟨rfl, s', r', hM, p1, p2, p3, p3', p4, p5, p6, p7, p8⟩
  simp
  refine Tells.ok (hQ _ _ ⟨rfl, s', r', hM, p1, Nat.le_trans x1.next p2, p3, p3', x1.trans p4, p5, p6, x1.of.trans p7, fun b hb => (p8 b hb).imp_right fun z => Nat.le_trans x1.next z⟩)

theorem bag_AllT (hX : OnlyKnown X) {bp : Nat} {s : AVal} {l : List (Dgram × Nat)} {h : Heap} (ob : Ob h bp [s]) (o : Sl dgT h s l) (hl : l.length ≤ 600) (hk : ∀ d, d ∈ l → d.1.ok ∧ d.1.bytes ≠ []) :
    Tells (fun q => acallX Try.prog X q F_bag_Bag_All [.ptr bp 0] h) fun v h' => ∃ es : List (Dgram × Nat), Gl dgT h h' v es ∧ es.map (·.1) = l.map (·.1) ∧ (∀ e, e ∈ es → h.next ≤ e.2) ∧ Ext [] h h' := by
  refine R_bag_Bag_All _ (hX _ _ rfl) ?_
  refine Tells.prot fun Q' hQ => ?_
  unfold S_bag_Bag_All
  simp [ob.1, o.len]
  refine Tells.bind (Tells.loop (fun n t g => ∃ (i : Nat) (es : List (Dgram × Nat)), t 9 = s ∧ t 10 = I l.length ∧ t 11 = I i ∧ i + n = l.length ∧ Gl dgT h g (t 3) es ∧ es.map (·.1) = (l.take i).map (·.1) ∧ (∀ e, e ∈ es → h.next ≤ e.2) ∧ Ext [] h g)
    (Q := fun p g => p.1 = .exit 0 ∧ ∃ es : List (Dgram × Nat), Gl dgT h g (p.2 3) es ∧ es.map (·.1) = l.map (·.1) ∧ (∀ e, e ∈ es → h.next ≤ e.2) ∧ Ext [] h g) ?_ l.length _ _ ?_) ?_
  · rintro n t g ⟨i, es, t9, t10, t11, hi, go, em, er, x⟩
    have el : es.length = i := by
      have := congrArg List.length em
      simp at this
      omega
    refine Tells.prot fun Q2 hQ2 => ?_
    unfold L_bag_Bag_All_1
    simp [t10, t11]
    refine Tells.cb (fun hc => ?_) (fun hc => ?_)
    · simp at hc
      obtain ⟨d, hdi⟩ : ∃ d, l[i]? = some d := ⟨_, List.getElem?_eq_getElem hc⟩
      obtain ⟨b, p, B, c, q1, q2, q3⟩ := (o.ext x).at (n := 3) rfl (i := (i : Int)) (by omega) (by simpa using hdi)
      have hlen : c.length = 3 := dgT.len q3
      have q4 := q2.lda (n := 3) hlen
      simp only [ldn_ptr] at q4
      have w : IntKind.i64.wrap ((i : Int) + 1) = i + 1 := wrap_id (by omega) (by omega)
      simp [J_bag_Bag_All_2, t9, t11, q1, q4]
      refine Tells.newSt (by rfl) (by rfl) hlen (dgT.one q3) fun h1 b1 o1 x1 l1 => ?_
      simp [o1.1, hlen, List.take_of_length_le (Nat.le_of_eq hlen)]
      obtain ⟨k1, k2⟩ := hk d (List.mem_of_getElem? hdi)
      refine Tells.bind (bag_cloneT hX (dgT.ext q3 x1) k1 k2) ?_
      rintro _ h2 ⟨c2, r2, rfl, k2, z2, x2⟩
      have x02 := (x.trans x1).trans x2
      try simp
      refine Tells.app1 ((go.e x1).e x2) (by rfl) (by rfl) k2 (by rfl) (by rfl) (by omega) (by decide) x02.next fun s3 h3 g3 x3 y3 z3 => ?_
      simp [J_bag_Bag_All_3, t11, w]
      refine Tells.ok (hQ2 _ _ (.inl ⟨rfl, n - 1, by omega, i + 1, es ++ [(d.1, r2)], by simp [t9], by simp [t10], by simp, by omega, by simpa using g3, ?_, ?_, y3 _ x02⟩))
      · have : l.take (i + 1) = l.take i ++ [d] := by rw [List.take_add_one, hdi]; rfl
        rw [this, List.map_append, List.map_append, em]; rfl
      · intro e he
        rcases List.mem_append.1 he with q | q
        · exact er e q
        · simp at q; subst q; have := x.next; have := x1.next; simp; omega
    · simp at hc
      refine Tells.ok (hQ2 _ _ (.inr ⟨by simp, rfl, es, by simpa using go, ?_, er, x⟩))
      rw [List.take_of_length_le (by omega)] at em
      exact em
  · exact ⟨0, [], by simp, by simp, by simp, by omega, by simpa using Gl.nil, rfl, by simp, .refl⟩
  · rintro ⟨ex, t⟩ g ⟨rfl, es, go, em, er, x⟩
    simp [J_bag_Bag_All_0]
    exact Tells.ok (hQ _ _ ⟨es, go, em, er, x⟩)

/-- The first one is taken. -/
theorem bag_Take0 (hX : OnlyKnown X) {α : Type} {R : Rp α} (hn : R.n = 3) {bp : Nat} {s : AVal} {hK : Heap} {l : List α} {d : α} {h : Heap} (ob : Ob h bp [s]) (o : Sl R h s (d :: l)) (wr : Wr hK h s) (hl : l.length < 600) (hle : hK.next ≤ h.next) : Tells (fun q => acallX Try.prog X q F_bag_Bag_Take [.ptr bp 0, I 0] h) fun v h' =>
    ∃ c s', v = .tup [.agg c, .bool true] ∧ c.length = 3 ∧ R.rep h' c d ∧ Ob h' bp [s'] ∧ Sl R h' s' l ∧ Wr hK h' s' ∧ Ext (bp :: s.blks) h h' := by
  refine R_bag_Bag_Take _ _ (hX _ _ rfl) ?_
  refine Tells.prot fun Q' hQ => ?_
  unfold S_bag_Bag_Take
  simp
  refine Tells.new fun h1 b1 o1 x1 l1 => ?_
  try simp
  refine Tells.bind (bag_isG hX 0 (ob.e x1) (o.ext x1)) ?_
  rintro v h' ⟨rfl, rfl⟩
  have os1 := o.ext x1
  have ob1 := ob.e x1
  obtain ⟨b, p, B, c, q1, q2, q3⟩ := os1.at (n := 3) hn (i := (0 : Int)) (by omega) (x := d) (by simp)
  have hlen : c.length = 3 := by rw [← hn]; exact R.len q3
  have q4 := q2.lda (n := 3) hlen
  simp only [ldn_ptr] at q4
  have ht : (decide ((0 : Int) ≤ 0) && decide ((0 : Int) < (d :: l).length)) = true := by simp <;> omega
  simp only [ht]
  simp [J_bag_Bag_Take_0, ob1.1, q1, q4]
  refine Tells.newSt (by rfl) (by rfl) hlen (R.one q3) fun h2 b2 o2 x2 l2 => ?_
  have os2 := os1.ext x2
  have ob2 := ob1.e x2
  have ne := os2.ne (by simp)
  have w : IntKind.i64.wrap (1 : Int) = 1 := rfl
  obtain ⟨_, _, _, c4⟩ := os2.cut (n := 3) hn ne (lo := 0) (hi := 0) (by omega) (by simp)
  obtain ⟨v1, e1, s1, bl1, gr1⟩ := c4 rfl
  obtain ⟨v2, e2, s2, bl2⟩ := os2.dropR (n := 3) hn (lo := 1) (by simp)
  have e1 : slcR 3 s none (some (.int .i64 0)) (some (.int .i64 0)) = some v1 := by simpa using e1
  have e2 : slcR 3 s (some (.int .i64 1)) none none = some v2 := by simpa using e2
  have wv : Wr hK h2 v1 := fun b hb => ((wr.ext x1).ext x2) b (by rw [← bl1]; exact hb)
  simp [ob2.1, w, e1, e2]
  refine Tells.appNWE (h0 := hK) ⟨s1, by rw [hn]; exact gr1 _⟩ wv s2 hn (by simp; omega) (by decide : 40 ≤ 2 ^ 12) (by have := x1.next; have := x2.next; omega) fun s' h3 g3 w3 x3 y3 z3 => ?_
  rw [bl1] at x3 z3
  have o3 := ob2.ext x3 (os2.ob ob2)
  have o23 := o2.ext x3 fun hb => os2.ob o2 hb
  have o13 := (o1.e x2).ext x3 (fun hb => os2.ob (o1.e x2) hb)
  try simp
  refine Tells.st1E o3 g3.1.cells g3.1.one (by simp) fun h4 o4 x4 => ?_
  have hb2 : b2 ≠ bp := by have := ob1.lt; omega
  have hb1 : b1 ≠ bp := by have := ob.lt; omega
  have hb12 : b1 ≠ b2 := by have := o1.lt; omega
  have o24 := o23.ext x4 (by simpa using hb2)
  have o14 := o13.ext x4 (by simpa using hb1)
  simp [o24.1, hlen, List.take_of_length_le (Nat.le_of_eq hlen)]
  refine Tells.stN o14 (by rfl) hlen (R.one q3) rfl fun h5 o5 x5 => ?_
  have x03 : Ext (bp :: s.blks) h h3 := ((x1.of).then x2 (by simp)).then x3 fun b hb => .inl (by simp [hb])
  have x05 := (x03.then x4 (by simp)).then x5 (by simp; omega)
  have k5 : R.rep h5 c d := R.ext (R.ext (R.ext (R.ext q3 x2) x3) x4) x5
  simp [C_bag_Bag_Take_0, o5.1, hlen, List.take_of_length_le (Nat.le_of_eq hlen)]
  refine Tells.ok (hQ _ _ ⟨c, s', rfl, hlen, k5, by simpa using o4.ext x5 (by simpa using fun q => hb1 q.symm), ?_, (w3.ext x4).ext x5, x05⟩)
  have := (g3.1.ext x4).ext x5
  simpa using this

end
end Go.Proofs.Ythepnokmoaipfaa
