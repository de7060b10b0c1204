/-
  The document's bag: what its functions tell.
-/
import Derived.Test.YthepnokmoaipfaaBag1
import Derived.Test.YthepnokmoaipfaaSprecentorref14
set_option linter.unusedVariables false
set_option linter.unusedSimpArgs false
namespace Go.Proofs.Ythepnokmoaipfaa
open Go.Ab

section
variable {X : XTab}

theorem rbag_Put (hX : OnlyKnown X) {bp : Nat} {s v : AVal} {l ds : List Dgram} {h : Heap} (r : BagR h bp s l) (hv : Sl dgR h v ds) (hd : ∀ d, d ∈ ds → d.ok) (hl : ds.length < 2 ^ 62) : Tells (fun q => acallX Try.prog X q F_precentorref14_Bag_Put [.ptr bp 0, v] h) fun u h' =>
    u = I (min ds.length (600 - l.length) : Nat) ∧ ∃ s', BagR h' bp s' (putL l ds) ∧ Ext (bp :: s.blks) h h' ∧ ∀ b, b ∈ s'.blks → b ∈ s.blks ∨ h.next ≤ b := by
  refine R_precentorref14_Bag_Put _ _ (hX _ _ rfl) ?_
  refine Tells.prot fun Q' hQ => ?_
  unfold S_precentorref14_Bag_Put
  try simp
  refine Tells.bind (Tells.loop (fun n t g => ∃ (i : Nat) (s' : AVal), t 0 = .ptr bp 0 ∧ t 1 = v ∧ t 6 = I i ∧ t 5 = I (min i (600 - l.length) : Nat) ∧ i ≤ ds.length ∧ n = ds.length - i ∧
      BagR g bp s' (putL l (ds.take i)) ∧ Ext (bp :: s.blks) h g ∧ ∀ b, b ∈ s'.blks → b ∈ s.blks ∨ h.next ≤ b)
    (Q := fun p g => p.1 = .exit 0 ∧ p.2 5 = I (min ds.length (600 - l.length) : Nat) ∧ ∃ s', BagR g bp s' (putL l ds) ∧ Ext (bp :: s.blks) h g ∧ ∀ b, b ∈ s'.blks → b ∈ s.blks ∨ h.next ≤ b) ?_ ds.length _ _ ?_) ?_
  · rintro n t g ⟨i, s', t0, t1, t6, t5, hi, hn, br, x, hb⟩
    refine Tells.prot fun Q2 hQ2 => ?_
    have hvl := hv.len
    unfold L_precentorref14_Bag_Put_1
    simp [t1, t6, hvl]
    refine Tells.cb (fun hc => ?_) (fun hc => ?_)
    · simp at hc
      obtain ⟨d, hdi⟩ : ∃ d, ds[i]? = some d := ⟨_, List.getElem?_eq_getElem hc⟩
      obtain ⟨b, p, B, c, q1, q2, q3⟩ := (hv.ext x).at (n := 3) rfl (i := (i : Int)) (by omega) (by simpa using hdi)
      have hok := hd d (List.mem_of_getElem? hdi)
      have hlen : c.length = 3 := dgR.len q3
      have q4 := q2.lda (n := 3) hlen
      simp only [ldn_ptr] at q4
      have w : IntKind.i64.wrap ((i : Int) + 1) = i + 1 := wrap_id (by omega) (by omega)
      have hsub : ds.take (i + 1) = ds.take i ++ [d] := by rw [List.take_add_one, hdi]; rfl
      have hplen : (putL l (ds.take i)).length = l.length + min i (600 - l.length) := by unfold putL; simp; omega
      have hl6 := r.2.2.2
      simp [J_precentorref14_Bag_Put_2, t0, br.1.1, br.2.1.1.len]
      refine Tells.cb (fun hc2 => ?_) (fun hc2 => ?_)
      · simp at hc2
        simp [t1, t6, t0, q1, q4]
        refine Tells.app1E br.2.1 (by rfl) (by rfl) q3 (by rfl) (by rfl) (by omega) (by decide) (by simp [Heap.empty, Heap.next]) fun s3 h3 g3 x3 y3 z3 => ?_
        have o3 := br.1.ext x3 (br.2.1.1.ob br.1)
        try simp
        refine Tells.st1E o3 g3.1.cells g3.1.one (by simp) fun h4 o4 x4 => ?_
        have w5 : IntKind.i64.wrap (((min i (600 - l.length) : Nat) : Int) + 1) = (min (i + 1) (600 - l.length) : Nat) := by rw [wrap_id (by omega) (by omega)]; omega
        have x03 : Ext (bp :: s.blks) h h3 := x.then x3 fun b hb' => by
          rcases hb b hb' with k | k
          · left; simp [k]
          · exact .inr k
        have x04 := x03.then x4 (by simp)
        simp [t5, w5, J_precentorref14_Bag_Put_3, t6, w]
        refine Tells.ok (hQ2 _ _ (.inl ⟨rfl, n - 1, by omega, i + 1, s3, by simp [t0], by simp [t1], by simp, by simp, by omega, by omega, ⟨by simpa using o4, ?_, ?_, ?_⟩, x04, ?_⟩))
        · have : putL l (ds.take (i + 1)) = putL l (ds.take i) ++ [d] := by
            unfold putL
            rw [hsub, List.take_append, List.append_assoc]
            congr 2
            rw [hplen] at hc2
            have : 600 - l.length - (ds.take i).length = (599 - l.length - i) + 1 := by simp; omega
            rw [this]
            simp
          rw [this]
          exact g3.ext x4 fun b hb q => g3.1.ob o3 (by simp at q; rw [← q]; exact hb)
        · intro e he
          unfold putL at he
          rcases List.mem_append.1 he with k | k
          · exact r.2.2.1 e k
          · exact hd e (List.mem_of_mem_take (List.mem_of_mem_take k))
        · unfold putL; simp; omega
        · intro b hb'
          rcases z3 b hb' with k | k
          · exact hb b k
          · right; have := x.next; omega
      · simp at hc2
        rw [hplen] at hc2
        simp [J_precentorref14_Bag_Put_3, t6, w]
        refine Tells.ok (hQ2 _ _ (.inl ⟨rfl, n - 1, by omega, i + 1, s', by simp [t0], by simp [t1], by simp, by simp [t5]; omega, by omega, by omega, ?_, x, hb⟩))
        have : putL l (ds.take (i + 1)) = putL l (ds.take i) := by
          unfold putL
          rw [hsub, List.take_append]
          have : 600 - l.length - (ds.take i).length = 0 := by simp; omega
          rw [this]; simp
        rw [this]
        exact br
    · simp at hc
      have hi2 : i = ds.length := by omega
      refine Tells.ok (hQ2 _ _ (.inr ⟨by simp, rfl, by simp [t5, hi2], s', ?_, x, hb⟩))
      rw [hi2, List.take_length] at br
      exact br
  · exact ⟨0, s, by simp, by simp, by simp, by simp, by omega, by omega, by simpa [putL] using r, .refl, fun b hb => .inl hb⟩
  · rintro ⟨ex, t⟩ g ⟨rfl, t5, hs⟩
    simp only at t5
    simp [J_precentorref14_Bag_Put_0, t5]
    exact Tells.ok (hQ _ _ ⟨rfl, hs⟩)

theorem rbag_Take (hX : OnlyKnown X) {bp : Nat} {s : AVal} {l : List Dgram} (k : Int) (hk : In64 k) {h : Heap} (r : BagR h bp s l) : Tells (fun q => acallX Try.prog X q F_precentorref14_Bag_Take [.ptr bp 0, I k] h) fun v h' =>
    (∀ d, 0 ≤ k → l[k.toNat]? = some d → ∃ c s', v = .tup [.agg c, .bool true] ∧ dgR.rep h' c d ∧ BagR h' bp s' (l.eraseIdx k.toNat) ∧ Ext (bp :: s.blks) h h' ∧ ∀ b, b ∈ s'.blks → b ∈ s.blks ∨ h.next ≤ b) ∧
    ((k < 0 ∨ (l.length : Int) ≤ k) → v = .tup [.agg [I 0, I 0, .nils], .bool false] ∧ BagR h' bp s l ∧ Ext [] h h') := by
  refine R_precentorref14_Bag_Take _ _ (hX _ _ rfl) ?_
  refine Tells.prot fun Q' hQ => ?_
  unfold S_precentorref14_Bag_Take
  simp
  refine Tells.new fun h1 b1 o1 x1 l1 => ?_
  have r1 := r.e x1
  by_cases hin : 0 ≤ k ∧ k < l.length
  · obtain ⟨k0, k1⟩ := hin
    obtain ⟨d, hd⟩ : ∃ d, l[k.toNat]? = some d := ⟨_, List.getElem?_eq_getElem (by omega)⟩
    obtain ⟨kn, rfl⟩ : ∃ n : Nat, k = n := ⟨k.toNat, by omega⟩
    obtain ⟨b, p, B, c, q1, q2, q3⟩ := r1.2.1.1.at (n := 3) rfl k0 hd
    have hlen : c.length = 3 := dgR.len q3
    have q4 := q2.lda (n := 3) hlen
    simp only [ldn_ptr] at q4
    have d1 : ¬ ((kn : Int) < 0) := by omega
    have d2 : ¬ (l.length ≤ kn) := by omega
    simp [d1, d2, r1.1.1, r1.2.1.1.len, J_precentorref14_Bag_Take_0, q1, q4]
    refine Tells.newSt (by rfl) (by rfl) hlen (dgR.one q3) fun h2 b2 o2 x2 l2 => ?_
    have r2 := r1.e x2
    have h600 := r.2.2.2
    have w : IntKind.i64.wrap ((kn : Int) + 1) = (kn : Int) + 1 := wrap_id (by omega) (by omega)
    try simp
    refine Tells.litV (r := dgR) (xs := []) (css := []) (by rfl) trivial (by rfl) (by rfl) (bsl0 3 h2) fun va h3 ga xa bla => ?_
    have r3 := r2.e xa
    have kk3 := r3.1.kill (id := h2.next) (by rw [xa.n0]; exact n0_le h2) (by have := r2.1.lt; omega)
    obtain ⟨v1, e1, s1, bl1⟩ := r3.2.1.1.takeR (n := 3) rfl (hi := kn) (by omega)
    have e1 : slcR 3 s none (some (.int .i64 (kn : Int))) none = some v1 := e1
    simp [kk3, e1]
    refine Tells.appNE (ga.back (h0 := Heap.empty) (by simp [Heap.empty, Heap.next])) s1 (by rfl) (by simp; omega) (by decide) (by simp [Heap.empty, Heap.next]) fun v2 h4 g4 x4 y4 z4 => ?_
    have xa4 : Ext [] h2 h4 := xa.then x4 fun b hb => by rw [bla] at hb; simp at hb; right; omega
    have r4 := r2.e xa4
    have kk4 := r4.1.kill (id := h2.next) (by rw [xa4.n0]; exact n0_le h2) (by have := r2.1.lt; omega)
    obtain ⟨v3, e3, s3, bl3⟩ := r4.2.1.1.dropR (n := 3) rfl (lo := kn + 1) (by omega)
    have e3 : slcR 3 s (some (.int .i64 ((kn : Int) + 1))) none none = some v3 := by simpa using e3
    simp [kk3, kk4, w, e3]
    refine Tells.appNE g4 s3 (by rfl) (by simp; omega) (by decide) (by simp [Heap.empty, Heap.next]) fun s' h5 g5 x5 y5 z5 => ?_
    have v2b : ∀ b, b ∈ v2.blks → h2.next ≤ b := fun b hb => by
      rcases z4 b hb with q | q
      · rw [bla] at q; simp at q; omega
      · have := xa.next; omega
    have xa5 : Ext [] h2 h5 := xa4.then x5 fun b hb => .inr (v2b b hb)
    have r5 := r2.e xa5
    have o5 := r5.1
    try simp
    refine Tells.st1E o5 g5.1.cells g5.1.one (by simp) fun h6 o6 x6 => ?_
    have hb2 : b2 ≠ bp := by have := r1.1.lt; omega
    have hb1 : b1 ≠ bp := by have := r.1.lt; omega
    have o26 := (o2.e xa5).ext x6 (by simpa using hb2)
    have o16 := ((o1.e x2).e xa5).ext x6 (by simpa using hb1)
    simp [o26.1, hlen, List.take_of_length_le (Nat.le_of_eq hlen)]
    refine Tells.stN o16 (by rfl) hlen (dgR.one q3) rfl fun h7 o7 x7 => ?_
    have x05 : Ext (bp :: s.blks) h h5 := ((x1.of).then x2 (by simp)).then xa5 (by simp)
    have x07 := (x05.then x6 (by simp)).then x7 (by simp; omega)
    have k7 : dgR.rep h7 c d := dgR.ext (dgR.ext (dgR.ext (dgR.ext q3 x2) xa5) x6) x7
    simp [C_precentorref14_Bag_Take_0, o7.1, hlen, List.take_of_length_le (Nat.le_of_eq hlen)]
    refine Tells.ok (hQ _ _ ⟨fun d' _ hd' => ?_, fun hh => by omega⟩)
    have : d = d' := by simp at hd hd'; rw [hd] at hd'; exact Option.some.inj hd'
    subst this
    refine ⟨c, s', rfl, k7, ⟨by simpa using o6.ext x7 (by simpa using fun q => hb1 q.symm), ?_, ?_, ?_⟩, x07, fun b hb => ?_⟩
    · have : l.eraseIdx kn = l.take kn ++ l.drop (kn + 1) := List.eraseIdx_eq_take_drop_succ l kn
      simp only [Int.toNat_natCast, this]
      have g5' : Gl dgR Heap.empty h5 s' (l.take kn ++ l.drop (kn + 1)) := by simpa using g5
      have gx := g5'.ext x6 fun b hb q => g5.1.ob o5 (by simp at q; rw [← q]; exact hb)
      exact gx.ext x7 fun b hb q => gx.1.ob o16 (by simp at q; rw [← q]; exact hb)
    · intro e he; exact r.2.2.1 e (List.mem_of_mem_eraseIdx he)
    · have := r.2.2.2; rw [List.length_eraseIdx]; split <;> omega
    · right
      rcases z5 b hb with q | q
      · have := v2b b q; have := x1.next; have := x2.next; omega
      · have := xa4.next; have := x1.next; have := x2.next; omega
  · have fin : Tells (fun m => stR 3 h1 (.ptr b1 0) (.agg [I 0, I 0, .nils]) |> fun r => arb r (acallX Try.prog X m) fun _ h2 => Ab.ob (aLoad Try.prog h2 28 (.ptr b1 0)) fun v => Res.ok (AVal.tup [v, .bool false]) h2) Q' := by
      refine Tells.stN o1 (by rfl) rfl rfl rfl fun h2 o2 x2 => ?_
      simp [C_precentorref14_Bag_Take_0, o2.1]
      refine Tells.ok (hQ _ _ ⟨fun d' k0 hd' => ?_, fun hh => ⟨rfl, r1.ext x2 ?_ ?_, x1.then x2 (by simp; omega)⟩⟩)
      · have := (List.getElem?_eq_some_iff.1 hd').1; omega
      · have := r.1.lt; simp; omega
      · intro b hb q; have := r.2.1.1.blk b hb; simp at q; omega
    by_cases kn : k < 0
    · simp [kn, bldR, fillR]
      exact fin
    · have d2 : decide (((l.length : Nat) : Int) ≤ k) = true := by simp; omega
      simp [kn, d2, r1.1.1, r1.2.1.1.len, bldR, fillR]
      exact fin

theorem rbag_Twice (hX : OnlyKnown X) {bp : Nat} {s : AVal} {l : List Dgram} (k : Int) (hk : In64 k) {h : Heap} (r : BagR h bp s l) : Tells (fun q => acallX Try.prog X q F_precentorref14_Bag_Twice [.ptr bp 0, I k] h) fun v h' =>
    ∃ s', (∀ d, 0 ≤ k → l[k.toNat]? = some d → v = .bool (decide (l.length < 600)) ∧ BagR h' bp s' (putL l [d])) ∧ ((k < 0 ∨ (l.length : Int) ≤ k) → v = .bool false ∧ BagR h' bp s' l) ∧ Ext (bp :: s.blks) h h' ∧ ∀ b, b ∈ s'.blks → b ∈ s.blks ∨ h.next ≤ b := by
  refine R_precentorref14_Bag_Twice _ _ (hX _ _ rfl) ?_
  refine Tells.prot fun Q' hQ => ?_
  unfold S_precentorref14_Bag_Twice
  try simp
  by_cases kn : k < 0
  · simp [kn]
    exact Tells.ok (hQ _ _ ⟨s, fun d k0 _ => by omega, fun _ => ⟨rfl, r⟩, .refl, fun b hb => .inl hb⟩)
  by_cases kl : (l.length : Int) ≤ k
  · simp [kn, kl, r.1.1, r.2.1.1.len]
    refine Tells.ok (hQ _ _ ⟨s, fun d k0 hd => ?_, fun _ => ⟨rfl, r⟩, .refl, fun b hb => .inl hb⟩)
    have := (List.getElem?_eq_some_iff.1 hd).1; omega
  have h6 := r.2.2.2
  obtain ⟨d, hd⟩ : ∃ d, l[k.toNat]? = some d := ⟨_, List.getElem?_eq_getElem (by omega)⟩
  by_cases hf : 600 ≤ l.length
  · have hf' : (600 : Int) ≤ (l.length : Int) := by omega
    simp [kn, kl, r.1.1, r.2.1.1.len, hf']
    refine Tells.ok (hQ _ _ ⟨s, fun d' k0 hd' => ⟨by simp; omega, ?_⟩, fun hh => by omega, .refl, fun b hb => .inl hb⟩)
    have : putL l [d'] = l := by unfold putL; rw [show 600 - l.length = 0 by omega]; simp
    rw [this]; exact r
  · have hf' : ¬ (600 : Int) ≤ (l.length : Int) := by omega
    obtain ⟨b, p, B, c, q1, q2, q3⟩ := r.2.1.1.at (n := 3) rfl (by omega) hd
    have hlen : c.length = 3 := dgR.len q3
    have q4 := q2.lda (n := 3) hlen
    simp only [ldn_ptr] at q4
    simp [kn, kl, r.1.1, r.2.1.1.len, hf', J_precentorref14_Bag_Twice_0, q1, q4]
    refine Tells.app1E r.2.1 (by rfl) (by rfl) q3 (by rfl) (by rfl) (by omega) (by decide) (by simp [Heap.empty, Heap.next]) fun s3 h3 g3 x3 y3 z3 => ?_
    have o3 := r.1.ext x3 (r.2.1.1.ob r.1)
    try simp
    refine Tells.st1E o3 g3.1.cells g3.1.one (by simp) fun h4 o4 x4 => ?_
    have x03 : Ext (bp :: s.blks) h h3 := (Ext.refl (S := bp :: s.blks)).then x3 fun b hb' => .inl (by simp [hb'])
    have x04 := x03.then x4 (by simp)
    try simp
    refine Tells.ok (hQ _ _ ⟨s3, fun d' k0 hd' => ⟨by simp; omega, by simpa using o4, ?_, ?_, ?_⟩, fun hh => by omega, x04, z3⟩)
    · rw [hd] at hd'; cases hd'
      have : putL l [d] = l ++ [d] := by unfold putL; rw [show 600 - l.length = (599 - l.length) + 1 by omega]; simp
      rw [this]
      exact g3.ext x4 fun b hb q => g3.1.ob o3 (by simp at q; rw [← q]; exact hb)
    · intro e he
      rw [hd] at hd'; cases hd'
      unfold putL at he
      rcases List.mem_append.1 he with q | q
      · exact r.2.2.1 e q
      · have := List.mem_of_mem_take q
        simp at this; subst this
        exact r.2.2.1 _ (List.mem_of_getElem? hd)
    · unfold putL; simp; omega

end
end Go.Proofs.Ythepnokmoaipfaa
