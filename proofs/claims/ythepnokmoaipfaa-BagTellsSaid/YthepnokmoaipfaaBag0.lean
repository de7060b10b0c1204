/-
  What the functions of bag tell.
-/
import Derived.Test.YthepnokmoaipfaaB2
import Derived.Test.YthepnokmoaipfaaSbag
set_option linter.unusedVariables false
set_option linter.unusedSimpArgs false
namespace Go.Proofs.Ythepnokmoaipfaa
open Go.Ab

structure Dgram where
  from_ : Int
  to_ : Int
  bytes : List UInt8

def dgR : Rp Dgram := ⟨3, by decide, fun h cs d => ∃ v, cs = [I d.from_, I d.to_, v] ∧ Sl byteR h v d.bytes, fun ⟨v, e, _⟩ => by rw [e]; rfl, fun ⟨v, e, s⟩ => by rw [e]; simp [s.one], fun ⟨v, e, s⟩ x => ⟨v, e, s.ext x⟩⟩

/-- .. whose bytes were made since h0. -/
def dgF (h0 : Heap) : Rp Dgram := ⟨3, by decide, fun h cs d => ∃ v, cs = [I d.from_, I d.to_, v] ∧ Sl byteR h v d.bytes ∧ Wr h0 h v, fun ⟨v, e, _⟩ => by rw [e]; rfl, fun ⟨v, e, s, _⟩ => by rw [e]; simp [s.one], fun ⟨v, e, s, w⟩ x => ⟨v, e, s.ext x, w.ext x⟩⟩
theorem dgF.dg {h0 h : Heap} {cs : List AVal} {d : Dgram} (r : (dgF h0).rep h cs d) : dgR.rep h cs d := by obtain ⟨v, e, s, _⟩ := r; exact ⟨v, e, s⟩

/-- Not too long to be copied. -/
def Dgram.ok (d : Dgram) : Prop := d.bytes.length ≤ 2 ^ 30

/-- What a bag has. -/
def BagR (h : Heap) (bp : Nat) (s : AVal) (l : List Dgram) : Prop := Ob h bp [s] ∧ Gl dgR Heap.empty h s l ∧ (∀ d, d ∈ l → d.ok) ∧ l.length ≤ 600
theorem BagR.ext {S : List Nat} {h h' : Heap} {bp : Nat} {s : AVal} {l : List Dgram} (r : BagR h bp s l) (e : Ext S h h') (h1 : bp ∉ S) (h2 : ∀ b, b ∈ s.blks → b ∉ S) : BagR h' bp s l := ⟨r.1.ext e h1, r.2.1.ext e h2, r.2.2⟩
theorem BagR.e {h h' : Heap} {bp : Nat} {s : AVal} {l : List Dgram} (r : BagR h bp s l) (e : Ext [] h h') : BagR h' bp s l := r.ext e (by simp) (by simp)

section
variable {X : XTab}

theorem bag_clone (hX : OnlyKnown X) {cs : List AVal} {d : Dgram} {h : Heap} (hd : dgR.rep h cs d) (hk : d.ok) : Tells (fun q => acallX Try.prog X q F_bag_clone [.agg cs] h) fun v h' => ∃ cs', v = .agg cs' ∧ (dgF h).rep h' cs' d ∧ Ext [] h h' := by
  obtain ⟨v, rfl, s⟩ := hd
  refine R_bag_clone _ (hX _ _ rfl) ?_
  unfold S_bag_clone
  simp
  refine Tells.box rfl rfl fun h1 b1 o1 x1 l1 => ?_
  refine Tells.new fun h2 b2 o2 x2 l2 => ?_
  have x12 := x1.trans x2
  simp [(o1.e x2).1]
  refine Tells.copy (s.ext x12) rfl (by unfold Dgram.ok at hk; omega) (by decide) fun s' h3 g3 x3 w3 => ?_
  have x3 : Ext [] h2 h3 := x3
  have o13 := (o1.e x2).e x3
  try simp
  refine Tells.st1 o13 g3.1.cells g3.1.one (by simp) fun h4 o4 x4 => ?_
  simp [o4.1]
  refine Tells.stN ((o2.e x3).ext x4 (by have := o1.lt; simp; omega)) rfl rfl (by simp [g3.1.one]) rfl fun h5 o5 x5 => ?_
  simp [C_bag_clone_0, o5.1]
  have x := ((x12.trans x3).then x4 (by simp; omega)).then x5 (by simp; have := x1.next; omega)
  exact Tells.ok ⟨_, rfl, ⟨s', rfl, (g3.1.ext x4).ext x5, ((w3.ext x4).ext x5).back x12.next⟩, x⟩

theorem bag_is (hX : OnlyKnown X) {bp : Nat} {s : AVal} {l : List Dgram} (k : Int) {h : Heap} (r : BagR h bp s l) : Tells (fun q => acallX Try.prog X q F_bag_Bag_is [.ptr bp 0, I k] h) fun v h' => v = .bool (decide (0 ≤ k) && decide (k < l.length)) ∧ h' = h := by
  refine R_bag_Bag_is _ _ (hX _ _ rfl) ?_
  unfold S_bag_Bag_is
  by_cases hk : 0 ≤ k
  · simp [hk, r.1.1, r.2.1.1.len]
    exact Tells.ok ⟨by simp [hk], rfl⟩
  · simp [hk]
    exact Tells.ok ⟨by simp [hk], rfl⟩

theorem bag_Len (hX : OnlyKnown X) {bp : Nat} {s : AVal} {l : List Dgram} {h : Heap} (r : BagR h bp s l) : Tells (fun q => acallX Try.prog X q F_bag_Bag_Len [.ptr bp 0] h) fun v h' => v = I l.length ∧ h' = h := by
  refine R_bag_Bag_Len _ (hX _ _ rfl) ?_
  unfold S_bag_Bag_Len
  simp [r.1.1, r.2.1.1.len]
  exact Tells.ok ⟨rfl, rfl⟩

/-- What Put lets come. -/
def putL (l ds : List Dgram) : List Dgram := l ++ ds.take (600 - l.length)

theorem bag_Put (hX : OnlyKnown X) {bp : Nat} {s v : AVal} {l ds : List Dgram} {h : Heap} (r : BagR h bp s l) (hv : Sl dgR h v ds) (hd : ∀ d, d ∈ ds → d.ok) (hl : ds.length < 2 ^ 62) : Tells (fun q => acallX Try.prog X q F_bag_Bag_Put [.ptr bp 0, v] h) fun u h' =>
    u = I (min ds.length (600 - l.length) : Nat) ∧ ∃ s', BagR h' bp s' (putL l ds) ∧ Ext (bp :: s.blks) h h' ∧ ∀ b, b ∈ s'.blks → b ∈ s.blks ∨ h.next ≤ b := by
  refine R_bag_Bag_Put _ _ (hX _ _ rfl) ?_
  refine Tells.prot fun Q' hQ => ?_
  unfold S_bag_Bag_Put
  simp [hv.len]
  refine Tells.bind (Tells.loop (fun n t g => ∃ (i : Nat) (s' : AVal), t 0 = .ptr bp 0 ∧ t 8 = v ∧ t 9 = I ds.length ∧ t 10 = I i ∧ t 5 = I (min i (600 - l.length) : Nat) ∧ i ≤ ds.length ∧ n = ds.length - i ∧
      BagR g bp s' (putL l (ds.take i)) ∧ Ext (bp :: s.blks) h g ∧ ∀ b, b ∈ s'.blks → b ∈ s.blks ∨ h.next ≤ b)
    (Q := fun p g => p.1 = .exit 0 ∧ p.2 5 = I (min ds.length (600 - l.length) : Nat) ∧ ∃ s', BagR g bp s' (putL l ds) ∧ Ext (bp :: s.blks) h g ∧ ∀ b, b ∈ s'.blks → b ∈ s.blks ∨ h.next ≤ b) ?_ ds.length _ _ ?_) ?_
  · rintro n t g ⟨i, s', t0, t8, t9, t10, t5, hi, hn, br, x, hb⟩
    refine Tells.prot fun Q2 hQ2 => ?_
    unfold L_bag_Bag_Put_1
    simp [t9, t10]
    refine Tells.cb (fun hc => ?_) (fun hc => ?_)
    · simp at hc
      obtain ⟨d, hdi⟩ : ∃ d, ds[i]? = some d := ⟨_, List.getElem?_eq_getElem hc⟩
      obtain ⟨b, p, B, c, q1, q2, q3⟩ := (hv.ext x).at (n := 3) rfl (i := (i : Int)) (by omega) (by simpa using hdi)
      have hok := hd d (List.mem_of_getElem? hdi)
      have hlen : c.length = 3 := dgR.len q3
      have q4 := q2.lda (n := 3) hlen
      simp only [ldn_ptr] at q4
      have hone := dgR.one q3
      have w : IntKind.i64.wrap ((i : Int) + 1) = i + 1 := wrap_id (by omega) (by omega)
      have hsub : ds.take (i + 1) = ds.take i ++ [d] := by rw [List.take_add_one, hdi]; rfl
      have hplen : (putL l (ds.take i)).length = l.length + min i (600 - l.length) := by unfold putL; simp; omega
      have hl6 := r.2.2.2
      simp [J_bag_Bag_Put_2, t8, t10, t0, q1, q4]
      refine Tells.newSt rfl rfl hlen hone fun h1 b1 o1 x1 l1 => ?_
      have br1 := br.e x1
      simp [t0, br1.1.1, br1.2.1.1.len]
      refine Tells.cb (fun hc2 => ?_) (fun hc2 => ?_)
      · simp at hc2
        simp [t0, br1.1.1, o1.1, hlen, List.take_of_length_le (Nat.le_of_eq hlen)]
        refine Tells.cbE (bag_clone hX (dgR.ext q3 x1) hok) ?_
        rintro _ h2 ⟨c2, rfl, k2, x2⟩
        have k2 := dgF.dg k2
        have br2 := br1.e x2
        have hl2 : c2.length = 3 := dgR.len k2
        simp [br2.1.1]
        refine Tells.app1E br2.2.1 (by rfl) (by rfl) k2 (by rfl) (by rfl) (by omega) (by decide) (by simp [Heap.empty, Heap.next]) fun s3 h3 g3 x3 y3 z3 => ?_
        have o3 := br2.1.ext x3 (br2.2.1.1.ob br2.1)
        try simp
        refine Tells.st1E o3 g3.1.cells g3.1.one (by simp) fun h4 o4 x4 => ?_
        have w5 : IntKind.i64.wrap (((min i (600 - l.length) : Nat) : Int) + 1) = (min (i + 1) (600 - l.length) : Nat) := by rw [wrap_id (by omega) (by omega)]; omega
        have x03 : Ext (bp :: s.blks) h h3 := ((x.then x1 (by simp)).then x2 (by simp)).then x3 fun b hb' => by
          rcases hb b hb' with k | k
          · left; simp [k]
          · exact .inr k
        have x04 := x03.then x4 (by simp)
        simp [t5, w5, J_bag_Bag_Put_3, t10, w]
        refine Tells.ok (hQ2 _ _ (.inl ⟨rfl, n - 1, by omega, i + 1, s3, by simp [t0], by simp [t8], by simp [t9], by simp, by simp, by omega, by omega, ⟨by simpa using o4, ?_, ?_, ?_⟩, x04, ?_⟩))
        · have : putL l (ds.take (i + 1)) = putL l (ds.take i) ++ [d] := by
            unfold putL
            rw [hsub, List.take_append, List.append_assoc]
            congr 2
            rw [hplen] at hc2
            have : 600 - l.length - (ds.take i).length = (599 - l.length - i) + 1 := by simp; omega
            rw [this]
            simp
          rw [this]
          exact g3.ext x4 fun b hb q => g3.1.ob o3 (by simp at q; rw [← q]; exact hb)
        · intro e he
          unfold putL at he
          rcases List.mem_append.1 he with k | k
          · exact r.2.2.1 e k
          · exact hd e (List.mem_of_mem_take (List.mem_of_mem_take k))
        · unfold putL; simp; omega
        · intro b hb'
          rcases z3 b hb' with k | k
          · exact hb b k
          · right; have := x.next; have := x1.next; have := x2.next; omega
      · simp at hc2
        rw [hplen] at hc2
        simp [J_bag_Bag_Put_3, t10, w]
        refine Tells.ok (hQ2 _ _ (.inl ⟨rfl, n - 1, by omega, i + 1, s', by simp [t0], by simp [t8], by simp [t9], by simp, by simp [t5]; omega, by omega, by omega, ?_, x.then x1 (by simp), hb⟩))
        have : putL l (ds.take (i + 1)) = putL l (ds.take i) := by
          unfold putL
          rw [hsub, List.take_append]
          have : 600 - l.length - (ds.take i).length = 0 := by simp; omega
          rw [this]; simp
        rw [this]
        exact br1
    · simp at hc
      have hi2 : i = ds.length := by omega
      refine Tells.ok (hQ2 _ _ (.inr ⟨by simp, rfl, by simp [t5, hi2], s', ?_, x, hb⟩))
      rw [hi2, List.take_length] at br
      exact br
  · exact ⟨0, s, by simp, by simp, by simp, by simp, by simp, by omega, by omega, by simpa [putL] using r, .refl, fun b hb => .inl hb⟩
  · rintro ⟨ex, t⟩ g ⟨rfl, t5, s', hs⟩
    simp only at t5
    simp [J_bag_Bag_Put_0, t5]
    exact Tells.ok (hQ _ _ ⟨rfl, s', hs⟩)

theorem bag_Take (hX : OnlyKnown X) {bp : Nat} {s : AVal} {l : List Dgram} (k : Int) (hk : In64 k) {h : Heap} (r : BagR h bp s l) : Tells (fun q => acallX Try.prog X q F_bag_Bag_Take [.ptr bp 0, I k] h) fun v h' =>
    (∀ d, 0 ≤ k → l[k.toNat]? = some d → ∃ c s', v = .tup [.agg c, .bool true] ∧ dgR.rep h' c d ∧ BagR h' bp s' (l.eraseIdx k.toNat) ∧ Ext (bp :: s.blks) h h' ∧ ∀ b, b ∈ s'.blks → b ∈ s.blks ∨ h.next ≤ b) ∧
    ((k < 0 ∨ (l.length : Int) ≤ k) → v = .tup [.agg [I 0, I 0, .nils], .bool false] ∧ BagR h' bp s l ∧ Ext [] h h') := by
  refine R_bag_Bag_Take _ _ (hX _ _ rfl) ?_
  refine Tells.prot fun Q' hQ => ?_
  unfold S_bag_Bag_Take
  simp
  refine Tells.new fun h1 b1 o1 x1 l1 => ?_
  have r1 := r.e x1
  try simp
  refine Tells.bind (bag_is hX k r1) ?_
  rintro v h' ⟨rfl, rfl⟩
  by_cases hin : 0 ≤ k ∧ k < l.length
  · obtain ⟨k0, k1⟩ := hin
    obtain ⟨d, hd⟩ : ∃ d, l[k.toNat]? = some d := ⟨_, List.getElem?_eq_getElem (by omega)⟩
    obtain ⟨kn, rfl⟩ : ∃ n : Nat, k = n := ⟨k.toNat, by omega⟩
    obtain ⟨b, p, B, c, q1, q2, q3⟩ := r1.2.1.1.at (n := 3) rfl k0 hd
    have hlen : c.length = 3 := dgR.len q3
    have q4 := q2.lda (n := 3) hlen
    simp only [ldn_ptr] at q4
    simp [k1, J_bag_Bag_Take_0, r1.1.1, q1, q4]
    refine Tells.newSt (by rfl) (by rfl) hlen (dgR.one q3) fun h2 b2 o2 x2 l2 => ?_
    have r2 := r1.e x2
    have ne := r2.2.1.1.ne (by omega)
    have h600 := r.2.2.2
    have w : IntKind.i64.wrap ((kn : Int) + 1) = ((kn + 1 : Nat) : Int) := by rw [wrap_id (by omega) (by omega)]; rfl
    obtain ⟨_, _, _, c4⟩ := r2.2.1.1.cut (n := 3) rfl ne (lo := 0) (hi := kn) (by omega) (by omega)
    obtain ⟨v1, e1, s1, bl1, gr1⟩ := c4 rfl
    obtain ⟨v2, e2, s2, bl2⟩ := r2.2.1.1.dropR (n := 3) rfl (lo := kn + 1) (by omega)
    have e2 : slcR 3 s (some (.int .i64 ((kn : Int) + 1))) none none = some v2 := by simpa using e2
    have w : IntKind.i64.wrap ((kn : Int) + 1) = (kn : Int) + 1 := wrap_id (by omega) (by omega)
    simp [r2.1.1, w, e1, e2]
    refine Tells.appNE (h0 := Heap.empty) ⟨s1, gr1 _⟩ s2 (by rfl) (by have := r.2.2.2; simp; omega) (by decide) (by simp [Heap.empty, Heap.next]) fun s' h3 g3 x3 y3 z3 => ?_
    rw [bl1] at x3 z3
    have o3 := r2.1.ext x3 (r2.2.1.1.ob r2.1)
    have o23 := o2.ext x3 fun hb => r2.2.1.1.ob o2 hb
    have o13 := (o1.e x2).ext x3 (fun hb => r2.2.1.1.ob (o1.e x2) hb)
    try simp
    refine Tells.st1E o3 g3.1.cells g3.1.one (by simp) fun h4 o4 x4 => ?_
    have hb2 : b2 ≠ bp := by have := r1.1.lt; omega
    have hb1 : b1 ≠ bp := by have := r.1.lt; omega
    have hb12 : b1 ≠ b2 := by have := o1.lt; omega
    have o24 := o23.ext x4 (by simpa using hb2)
    have o14 := o13.ext x4 (by simpa using hb1)
    simp [o24.1, hlen, List.take_of_length_le (Nat.le_of_eq hlen)]
    refine Tells.stN o14 (by rfl) hlen (dgR.one q3) rfl fun h5 o5 x5 => ?_
    have x03 : Ext (bp :: s.blks) h h3 := ((x1.of).then x2 (by simp)).then x3 fun b hb => .inl (by simp [hb])
    have x05 := (x03.then x4 (by simp)).then x5 (by simp; omega)
    have k5 : dgR.rep h5 c d := dgR.ext (dgR.ext (dgR.ext (dgR.ext q3 x2) x3) x4) x5
    simp [C_bag_Bag_Take_0, o5.1, hlen, List.take_of_length_le (Nat.le_of_eq hlen)]
    refine Tells.ok (hQ _ _ ⟨fun d' _ hd' => ?_, fun hh => by omega⟩)
    have : d = d' := by simp at hd hd'; rw [hd] at hd'; exact Option.some.inj hd'
    subst this
    refine ⟨c, s', rfl, k5, ⟨by simpa using o4.ext x5 (by simpa using fun q => hb1 q.symm), ?_, ?_, ?_⟩, x05, fun b hb => ?_⟩
    · have : l.eraseIdx kn = l.take kn ++ l.drop (kn + 1) := List.eraseIdx_eq_take_drop_succ l kn
      simp only [Int.toNat_natCast, this]
      have gx := g3.ext x4 fun b hb q => g3.1.ob o3 (by simp at q; rw [← q]; exact hb)
      exact gx.ext x5 fun b hb q => gx.1.ob o14 (by simp at q; rw [← q]; exact hb)
    · intro e he; exact r.2.2.1 e (List.mem_of_mem_eraseIdx he)
    · have := r.2.2.2; rw [List.length_eraseIdx]; split <;> omega
    · rcases z3 b hb with k | k
      · exact .inl k
      · right; have := x1.next; have := x2.next; omega
  · have hf : (decide (0 ≤ k) && decide (k < l.length)) = false := by simp; omega
    rw [hf]
    simp [bldR, fillR]
    refine Tells.stN o1 (by rfl) rfl rfl rfl fun h2 o2 x2 => ?_
    simp [C_bag_Bag_Take_0, o2.1]
    refine Tells.ok (hQ _ _ ⟨fun d' k0 hd' => ?_, fun hh => ⟨rfl, r1.ext x2 ?_ ?_, x1.then x2 (by simp; omega)⟩⟩)
    · have := (List.getElem?_eq_some_iff.1 hd').1; omega
    · have := r.1.lt; simp; omega
    · intro b hb q; have := r.2.1.1.blk b hb; simp at q; omega

theorem bag_Drop (hX : OnlyKnown X) {bp : Nat} {s : AVal} {l : List Dgram} (k : Int) (hk : In64 k) {h : Heap} (r : BagR h bp s l) : Tells (fun q => acallX Try.prog X q F_bag_Bag_Drop [.ptr bp 0, I k] h) fun v h' =>
    ∃ s', v = .bool (decide (0 ≤ k) && decide (k < l.length)) ∧ BagR h' bp s' (if 0 ≤ k then l.eraseIdx k.toNat else l) ∧ Ext (bp :: s.blks) h h' ∧ ∀ b, b ∈ s'.blks → b ∈ s.blks ∨ h.next ≤ b := by
  refine R_bag_Bag_Drop _ _ (hX _ _ rfl) ?_
  refine Tells.prot fun Q' hQ => ?_
  unfold S_bag_Bag_Drop
  simp
  refine Tells.bind (bag_Take hX k hk r) ?_
  rintro v h1 ⟨p1, p2⟩
  by_cases hin : 0 ≤ k ∧ k < l.length
  · obtain ⟨c, s', rfl, k1, r1, x1, z1⟩ := p1 (l[k.toNat]'(by omega)) hin.1 (List.getElem?_eq_getElem _)
    simp
    refine Tells.newSt (by rfl) (by rfl) (dgR.len k1) (dgR.one k1) fun h2 b2 o2 x2 l2 => ?_
    try simp
    refine Tells.ok (hQ _ _ ⟨s', by simp [hin], ?_, x1.quiet x2, z1⟩)
    rw [if_pos hin.1]; exact r1.e x2
  · obtain ⟨rfl, r1, x1⟩ := p2 (by omega)
    simp
    refine Tells.newSt (by rfl) (by rfl) rfl rfl fun h2 b2 o2 x2 l2 => ?_
    try simp
    have hf : (decide (0 ≤ k) && decide (k < l.length)) = false := by simp; omega
    refine Tells.ok (hQ _ _ ⟨s, by rw [hf], ?_, (x1.of).quiet x2, fun b hb => .inl hb⟩)
    have : (if 0 ≤ k then l.eraseIdx k.toNat else l) = l := by
      split
      · exact List.eraseIdx_of_length_le (by omega)
      · rfl
    rw [this]; exact r1.e x2

end
end Go.Proofs.Ythepnokmoaipfaa
