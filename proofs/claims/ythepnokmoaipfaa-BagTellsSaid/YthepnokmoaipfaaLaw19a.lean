/-
  Chapter 19: the closed example, and the question whether the package answers at all.
-/
import Derived.Test.YthepnokmoaipfaaBag1
import Derived.Test.YthepnokmoaipfaaHand0
import Derived.Test.YthepnokmoaipfaaRow0
import Derived.Test.YthepnokmoaipfaaSprecentorlaw19
set_option linter.unusedVariables false
set_option linter.unusedSimpArgs false
namespace Go.Proofs.Ythepnokmoaipfaa
open Go.Ab

theorem RawInts.feed {h : Heap} {v : AVal} {xs : List Int} {bf : Nat} (o : RawInts h v xs) (ob : Ob h bf [v, I 0]) : Feed h bf 0 := ⟨v, 0, xs, ob, by omega, by omega, o.sl, o.small, o.old⟩

/-- A table that tells nothing. -/
def noX : XTab := fun _ _ => none
theorem only_noX : OnlyKnown noX := fun _ _ _ => rfl
theorem ok_noX {P : Program} : XOk P noX := fun f a v e => by cases e

theorem conv_byte (h : Heap) (n : Int) : aConv Try.prog h 3 5 (.int .i64 n) = .val (.int .u8 (IntKind.u8.wrap n)) h := by kernel_rfl
theorem wrap_u8 (n : Int) : IntKind.u8.wrap n = n % 256 := by
  show (if false && decide (n % 256 ≥ 128) then n % 256 - 256 else n % 256) = n % 256
  simp
def byteOf (n : Int) : UInt8 := UInt8.ofNat (n % 256).toNat
theorem byteOf_eq (n : Int) : (((byteOf n).toNat : Nat) : Int) = n % 256 := by
  unfold byteOf
  have h1 : 0 ≤ n % 256 := Int.emod_nonneg _ (by decide)
  have h2 : n % 256 < 256 := Int.emod_lt_of_pos _ (by decide)
  rw [UInt8.toNat_ofNat']
  omega

/-- The datagram of a number. -/
def dgOf (n : Int) : Dgram := ⟨n, 1, [byteOf n]⟩
theorem dgOf_ok (n : Int) : (dgOf n).ok := by unfold Dgram.ok dgOf; simp

section
variable {X : XTab}

theorem datagram (hX : OnlyKnown X) (n : Int) (h : Heap) : Tells (fun q => acallX Try.prog X q F_precentorlaw19_datagram [I n] h) fun v h' => ∃ c, v = .agg c ∧ dgR.rep h' c (dgOf n) ∧ Ext [] h h' := by
  refine R_precentorlaw19_datagram _ (hX _ _ rfl) ?_
  refine Tells.prot fun Q' hQ => ?_
  unfold S_precentorlaw19_datagram
  simp
  refine Tells.new fun h1 b1 o1 x1 l1 => ?_
  simp [conv_byte, wrap_u8]
  refine Tells.lit (r := byteR) (xs := [byteOf n]) (css := [[.int .u8 (n % 256)]]) (by rfl) ⟨by show _ = _; rw [byteOf_eq], trivial⟩ (by rfl) (by rfl) (bsl1_int _ _ _ _) fun v2 h2 g2 x2 _ => ?_
  simp [bldR, fillR, splice, g2.1.known, g2.1.cells]
  refine Tells.stN (o1.e x2) (by rfl) (by rfl) (by simp [g2.1.one]) (by rfl) fun h3 o3 x3 => ?_
  simp [C_precentorlaw19_datagram_0, o3.1]
  exact Tells.ok (hQ _ _ ⟨_, rfl, ⟨v2, rfl, g2.1.ext x3⟩, (x1.trans x2).then x3 (by simp; omega)⟩)

/-- Two of them as a slice. -/
theorem lit2 {h : Heap} {c1 c2 : List AVal} {d1 d2 : Dgram} (k1 : dgR.rep h c1 d1) (k2 : dgR.rep h c2 d2) :
    bslR 3 [I 0, I 0, .nils, I 0, I 0, .nils] 2 h [(0, 3, .agg c1), (3, 3, .agg c2)] = .val (.sl h.next 0 2 2 3 true) (h.new false (c1 ++ c2)) := by
  obtain ⟨v1, rfl, _⟩ := k1
  obtain ⟨v2, rfl, _⟩ := k2
  simp [bslR, fillR, splice]

theorem knownLoop (hX : OnlyKnown X) {h : Heap} {bp : Nat} {s : AVal} {l : List Dgram} {t : T} (t1 : t 1 = .ptr bp 0) (r : BagR h bp s l) (hl : l.length = 2) :
    Tells (fun m => loopN (L_precentorlaw19_BagKnown_2 Try.prog (acallX Try.prog X m) m) m (upd t 9 (.int .i64 0)) h) fun p g => p.1 = .exit 0 ∧ p.2 1 = .ptr bp 0 ∧ ∃ s' l', BagR g bp s' l' ∧ l'.length = 600 ∧ Ext (bp :: s.blks) h g ∧ ∀ b, b ∈ s'.blks → b ∈ s.blks ∨ h.next ≤ b := by
  refine Tells.loop (fun n t g => ∃ (i : Nat) (s' : AVal) (l' : List Dgram), t 1 = .ptr bp 0 ∧ t 9 = I i ∧ i + n = 598 ∧ BagR g bp s' l' ∧ l'.length = 2 + i ∧ Ext (bp :: s.blks) h g ∧ ∀ b, b ∈ s'.blks → b ∈ s.blks ∨ h.next ≤ b) ?_ 598 _ _ ?_
  · rintro n t g ⟨i, s', l', t1, t9, hi, br, hl', x, hb⟩
    refine Tells.prot fun Q2 hQ2 => ?_
    unfold L_precentorlaw19_BagKnown_2
    simp [t9]
    refine Tells.cb (fun hc => ?_) (fun hc => ?_)
    · simp at hc
      simp [J_precentorlaw19_BagKnown_3, t9]
      refine Tells.bind (datagram hX i g) ?_
      rintro _ h1 ⟨c, rfl, k, x1⟩
      try simp
      refine Tells.lit (r := dgR) (xs := [dgOf i]) (css := [c]) (by rfl) ⟨k, trivial⟩ (by rfl) (by simp) (bsl1_agg (by rfl) (dgR.len k)) fun v2 h2 g2 x2 _ => ?_
      simp [t1]
      refine Tells.bind (bag_Put hX ((br.e x1).e x2) g2.1 (by intro d hd; simp at hd; subst hd; exact dgOf_ok _) (by simp)) ?_
      rintro _ h3 ⟨rfl, s3, br3, x3, z3⟩
      have e1 : min 1 (600 - l'.length) = 1 := by omega
      have w : IntKind.i64.wrap ((i : Int) + 1) = i + 1 := wrap_id (by omega) (by omega)
      simp [e1, J_precentorlaw19_BagKnown_4, t9, w]
      refine Tells.ok (hQ2 _ _ (.inl ⟨rfl, n - 1, by omega, i + 1, s3, putL l' [dgOf i], by simp [t1], by simp, by omega, br3, ?_, ?_, ?_⟩))
      · unfold putL
        have : 600 - l'.length = (599 - l'.length) + 1 := by omega
        rw [this]
        simp; omega
      · refine ((x.quiet x1).quiet x2).then x3 fun b hb' => ?_
        rcases List.mem_cons.1 hb' with q | q
        · left; simp [q]
        · rcases hb b q with z | z
          · left; simp [z]
          · exact .inr z
      · intro b hb'
        rcases z3 b hb' with q | q
        · exact hb b q
        · right; have := x.next; have := x1.next; have := x2.next; omega
    · simp at hc
      exact Tells.ok (hQ2 _ _ (.inr ⟨by simp, rfl, by simp [t1], s', l', br, by omega, x, hb⟩))
  · exact ⟨0, s, l, by simp [t1], by simp, by omega, r, by omega, .refl, fun b hb => .inl hb⟩

/-- A bag that was made since h0. -/
structure BagN (h0 h : Heap) (bp : Nat) (s : AVal) (l : List Dgram) : Prop where
  r : BagR h bp s l
  x : Ext [] h0 h
  b : h0.next ≤ bp
  z : ∀ b, b ∈ s.blks → h0.next ≤ b
theorem BagN.e {h0 h h' : Heap} {bp : Nat} {s : AVal} {l : List Dgram} (n : BagN h0 h bp s l) (e : Ext [] h h') : BagN h0 h' bp s l := ⟨n.r.e e, n.x.trans e, n.b, n.z⟩
theorem BagN.step {h0 h h' : Heap} {bp : Nat} {s s' : AVal} {l l' : List Dgram} (n : BagN h0 h bp s l) (r : BagR h' bp s' l') (e : Ext (bp :: s.blks) h h') (z : ∀ b, b ∈ s'.blks → b ∈ s.blks ∨ h.next ≤ b) : BagN h0 h' bp s' l' :=
  ⟨r, n.x.then e fun b hb => by
    rcases List.mem_cons.1 hb with q | q
    · right; rw [q]; exact n.b
    · exact .inr (n.z b q), n.b, fun b hb => by
    rcases z b hb with q | q
    · exact n.z b q
    · exact Nat.le_trans n.x.next q⟩

theorem two_ok (a b : Int) : ∀ d, d ∈ [dgOf a, dgOf b] → d.ok := by
  intro d hd
  simp at hd
  rcases hd with rfl | rfl <;> exact dgOf_ok _

theorem knownTail (hX : OnlyKnown X) {Q : AVal → Heap → Prop} {h0 h : Heap} {bp : Nat} {s : AVal} {l : List Dgram} {t : T} (t1 : t 1 = .ptr bp 0) (r : BagN h0 h bp s l) (hl : l.length = 600) (hQ : ∀ h', Ext [] h0 h' → Q (.bool true) h') :
    Tells (fun m => J_precentorlaw19_BagKnown_1 Try.prog (acallX Try.prog X m) m (retK Try.prog [.tmp 0]) t h) Q := by
  have pl : ∀ ds, putL l ds = l := fun ds => by unfold putL; rw [hl]; simp
  unfold J_precentorlaw19_BagKnown_1
  simp
  refine Tells.bind (datagram hX 1 h) ?_
  rintro _ h1 ⟨c1, rfl, k1, x1⟩
  try simp
  refine Tells.bind (datagram hX 2 h1) ?_
  rintro _ h2 ⟨c2, rfl, k2, x2⟩
  try simp
  refine Tells.lit (r := dgR) (xs := [dgOf 1, dgOf 2]) (css := [c1, c2]) (by rfl) ⟨dgR.ext k1 x2, k2, trivial⟩ (by rfl) (by simp) (lit2 (dgR.ext k1 x2) k2) fun v3 h3 g3 x3 _ => ?_
  have r3 := ((r.e x1).e x2).e x3
  simp [t1]
  refine Tells.bind (bag_Put hX r3.r g3.1 (two_ok 1 2) (by simp)) ?_
  rintro _ h4 ⟨rfl, s4, br4, x4, z4⟩
  rw [pl] at br4
  have r4 := r3.step br4 x4 z4
  simp [hl]
  refine Tells.bind (bag_Twice hX 0 ⟨by omega, by omega⟩ r4.r) ?_
  rintro v h5 ⟨s5, p5, _, x5, z5⟩
  obtain ⟨d0, hd0⟩ : ∃ d, l[(0 : Int).toNat]? = some d := ⟨_, List.getElem?_eq_getElem (by simp; omega)⟩
  obtain ⟨rfl, br5⟩ := p5 d0 (by omega) hd0
  rw [pl] at br5
  have r5 := r4.step br5 x5 z5
  simp [hl]
  refine Tells.bind (bag_Drop hX 0 ⟨by omega, by omega⟩ r5.r) ?_
  rintro _ h6 ⟨s6, rfl, br6, x6, z6⟩
  have r6 := r5.step br6 x6 z6
  have l6 : (if (0 : Int) ≤ 0 then l.eraseIdx (0 : Int).toNat else l).length = 599 := by
    rw [if_pos (by omega), List.length_eraseIdx, if_pos (by simp; omega), hl]
  generalize (if (0 : Int) ≤ 0 then l.eraseIdx (0 : Int).toNat else l) = l' at r6 l6
  simp [hl]
  refine Tells.bind (datagram hX 3 h6) ?_
  rintro _ h7 ⟨c7, rfl, k7, x7⟩
  try simp
  refine Tells.bind (datagram hX 4 h7) ?_
  rintro _ h8 ⟨c8, rfl, k8, x8⟩
  try simp
  refine Tells.lit (r := dgR) (xs := [dgOf 3, dgOf 4]) (css := [c7, c8]) (by rfl) ⟨dgR.ext k7 x8, k8, trivial⟩ (by rfl) (by simp) (lit2 (dgR.ext k7 x8) k8) fun v9 h9 g9 x9 _ => ?_
  have r9 := ((r6.e x7).e x8).e x9
  try simp [t1]
  refine Tells.bind (bag_Put hX r9.r g9.1 (two_ok 3 4) (by simp)) ?_
  rintro _ h10 ⟨rfl, s10, br10, x10, z10⟩
  have r10 := r9.step br10 x10 z10
  have l10 : (putL l' [dgOf 3, dgOf 4]).length = 600 := by
    unfold putL; rw [l6]; simp [l6]
  simp [l6]
  refine Tells.bind (bag_Len hX r10.r) ?_
  rintro _ h11 ⟨rfl, rfl⟩
  simp [l10]
  refine Tells.bind (bag_Put hX r10.r Sl.nil (by simp) (by simp)) ?_
  rintro _ h12 ⟨rfl, s12, br12, x12, z12⟩
  have r12 := r10.step br12 x12 z12
  simp
  exact Tells.ok (hQ _ r12.x)

theorem bagKnown (hX : OnlyKnown X) (h : Heap) : Tells (fun q => acallX Try.prog X q F_precentorlaw19_BagKnown [] h) fun v h' => v = .bool true ∧ Ext [] h h' := by
  refine R_precentorlaw19_BagKnown (hX _ _ rfl) ?_
  refine Tells.prot fun Q' hQ => ?_
  unfold S_precentorlaw19_BagKnown
  simp [bldR, fillR]
  refine Tells.newSt (by rfl) (by rfl) (by rfl) (by rfl) fun h1 bp o1 x1 l1 => ?_
  have r1 : BagN h h1 bp .nils [] := ⟨⟨o1, Gl.nil, by simp, by simp⟩, x1, l1, by simp [AVal.blks]⟩
  try simp
  refine Tells.bind (datagram hX 1 h1) ?_
  rintro _ h2 ⟨c2, rfl, k2, x2⟩
  try simp
  refine Tells.bind (datagram hX 2 h2) ?_
  rintro _ h3 ⟨c3, rfl, k3, x3⟩
  try simp
  refine Tells.lit (r := dgR) (xs := [dgOf 1, dgOf 2]) (css := [c2, c3]) (by rfl) ⟨dgR.ext k2 x3, k3, trivial⟩ (by rfl) (by simp) (lit2 (dgR.ext k2 x3) k3) fun v4 h4 g4 x4 _ => ?_
  have r4 := ((r1.e x2).e x3).e x4
  try simp
  refine Tells.bind (bag_Put hX r4.r g4.1 (two_ok 1 2) (by simp)) ?_
  rintro _ h5 ⟨rfl, s5, br5, x5, z5⟩
  have r5 := r4.step br5 x5 z5
  have e5 : putL [] [dgOf 1, dgOf 2] = [dgOf 1, dgOf 2] := by rfl
  rw [e5] at r5
  try simp
  refine Tells.bind (bag_Twice hX 0 ⟨by omega, by omega⟩ r5.r) ?_
  rintro v h6 ⟨s6, p6, _, x6, z6⟩
  obtain ⟨rfl, br6⟩ := p6 (dgOf 1) (by omega) rfl
  have r6 := r5.step br6 x6 z6
  have e6 : putL [dgOf 1, dgOf 2] [dgOf 1] = [dgOf 1, dgOf 2, dgOf 1] := by rfl
  rw [e6] at r6
  try simp
  refine Tells.bind (bag_Take hX 1 ⟨by omega, by omega⟩ r6.r) ?_
  rintro v h7 ⟨p7, _⟩
  obtain ⟨c7, s7, rfl, k7, br7, x7, z7⟩ := p7 (dgOf 2) (by omega) rfl
  have r7 := r6.step br7 x7 z7
  have e7 : [dgOf 1, dgOf 2, dgOf 1].eraseIdx (1 : Int).toNat = [dgOf 1, dgOf 1] := by rfl
  rw [e7] at r7
  obtain ⟨u7, rfl, q7⟩ := k7
  simp
  refine Tells.newSt (by rfl) (by rfl) (by rfl) (by simp [q7.one]) fun h8 bd o8 x8 l8 => ?_
  have r8 := r7.e x8
  try simp
  refine Tells.bind (bag_Take hX 5 ⟨by omega, by omega⟩ r8.r) ?_
  rintro v h9 ⟨_, p9⟩
  obtain ⟨rfl, br9, x9⟩ := p9 (.inr (by simp))
  have r9 := r8.e x9
  have o9 := o8.e x9
  simp
  refine Tells.newSt (by rfl) (by rfl) (by rfl) (by rfl) fun h10 be o10 x10 l10 => ?_
  have r10 := r9.e x10
  try simp
  refine Tells.bind (bag_All hX r10.r) ?_
  rintro v11 h11 ⟨g11, x11⟩
  have r11 := r10.e x11
  have o11 := (o9.e x10).e x11
  obtain ⟨b1, p1, B1, w1, i1, m1, ⟨y1, rfl, _, _⟩⟩ := g11.1.at (n := 3) rfl (i := 0) (by omega) (x := dgOf 1) rfl
  obtain ⟨b2, p2, B2, w2, i2, m2, ⟨y2, rfl, _, _⟩⟩ := g11.1.at (n := 3) rfl (i := 1) (by omega) (x := dgOf 1) rfl
  have q1 := m1.cell0 (by simp)
  have q2 := m2.cell0 (by simp)
  simp [g11.1.len, o11.1, dgOf, i1, i2, m1.get, m2.get, q1, q2]
  refine Tells.bind (bag_Len hX r11.r) ?_
  rintro _ h11 ⟨rfl, rfl⟩
  simp
  refine Tells.bind (bag_Drop hX (-1) ⟨by omega, by omega⟩ r11.r) ?_
  rintro _ h12 ⟨s12, rfl, br12, x12, z12⟩
  have r12 := r11.step br12 x12 z12
  simp at r12
  simp
  refine Tells.bind (bag_Twice hX 2 ⟨by omega, by omega⟩ r12.r) ?_
  rintro v h13 ⟨s13, _, p13, x13, z13⟩
  obtain ⟨rfl, br13⟩ := p13 (.inr (by simp))
  have r13 := r12.step br13 x13 z13
  simp [J_precentorlaw19_BagKnown_0]
  refine Tells.bind (knownLoop hX (by simp) r13.r (by rfl)) ?_
  rintro ⟨ex, t⟩ h14 ⟨rfl, t1, s14, l14, br14, hl14, x14, z14⟩
  simp
  exact knownTail hX t1 (r13.step br14 x14 z14) hl14 fun h' x' => hQ _ _ ⟨rfl, x'⟩

theorem known19 (hX : OnlyKnown X) (hk : X F_precentorlaw19_known [] = none) (h : Heap) : Tells (fun q => acallX Try.prog X q F_precentorlaw19_known [] h) fun v h' => v = .bool true ∧ Ext [] h h' := by
  refine R_precentorlaw19_known hk ?_
  refine Tells.prot fun Q' hQ => ?_
  unfold S_precentorlaw19_known
  try simp
  refine Tells.bind (bagKnown hX h) ?_
  rintro _ h1 ⟨rfl, x1⟩
  try simp
  exact Tells.ok (hQ _ _ ⟨rfl, x1⟩)

end
end Go.Proofs.Ythepnokmoaipfaa
