/-
  A feed whose row is known; stamps, changed where they lie.
-/
import Derived.Test.YtodccjbgomimjaaRef15c
set_option linter.unusedVariables false
set_option linter.unusedSimpArgs false
namespace Go.Proofs.Ytodccjbgomimjaa
open Go.Ab

/-- A feed of the row L. -/
def FeedL (h : Heap) (bf k : Nat) (L : AVal) (xs : List Int) : Prop := ∃ at_, Ob h bf [L, I at_] ∧ 0 ≤ at_ ∧ at_ ≤ (k : Int) ∧ Sl intR h L xs ∧ xs.length < 2 ^ 63
theorem FeedL.ext {S : List Nat} {h h' : Heap} {bf k : Nat} {L : AVal} {xs : List Int} (f : FeedL h bf k L xs) (e : Ext S h h') (hb : bf ∉ S) : FeedL h' bf k L xs := by
  obtain ⟨a, h1, h2, h3, h4, h5⟩ := f
  exact ⟨a, h1.ext e hb, h2, h3, h4.ext e, h5⟩
theorem FeedL.e {h h' : Heap} {bf k : Nat} {L : AVal} {xs : List Int} (f : FeedL h bf k L xs) (e : Ext [] h h') : FeedL h' bf k L xs := f.ext e (by simp)
theorem FeedL.mono {h : Heap} {bf k k' : Nat} {L : AVal} {xs : List Int} (f : FeedL h bf k L xs) (hk : k ≤ k') : FeedL h bf k' L xs := by
  obtain ⟨a, h1, h2, h3, h4⟩ := f
  exact ⟨a, h1, h2, by omega, h4⟩
theorem FeedL.lt {h : Heap} {bf k : Nat} {L : AVal} {xs : List Int} (f : FeedL h bf k L xs) : bf < h.next := by obtain ⟨a, h1, _⟩ := f; exact h1.lt
theorem FeedL.m {h : Heap} {bf k : Nat} {L : AVal} {xs : List Int} (f : FeedL h bf k L xs) : h.isM bf = true := by obtain ⟨a, h1, _⟩ := f; exact h1.2.1
theorem FeedL.out {h : Heap} {bf k : Nat} {L : AVal} {ls : List Int} {α : Type} {r : Rp α} {v : AVal} {xs : List α} (f : FeedL h bf k L ls) (o : Sl r h v xs) : bf ∉ v.blks := fun hb => by
  have := (o.blk bf hb).1
  rw [f.m] at this; cases this
/-- Through a write into another row: the object is as it was, the row is older than h0. -/
theorem FeedL.poke {S : List Nat} {h0 h h' : Heap} {bf k : Nat} {L : AVal} {ls : List Int} (f : FeedL h bf k L ls) (f0 : Sl intR h0 L ls) (x : Ext S h0 h') (ob : ∀ (b2 : Nat) (cs : List AVal), Ob h b2 cs → Ob h' b2 cs) : FeedL h' bf k L ls := by
  obtain ⟨a, h1, h2, h3, h4, h5⟩ := f
  exact ⟨a, ob _ _ h1, h2, h3, f0.ext x, h5⟩

theorem splice_two {cs : List AVal} {off : Nat} {x y : AVal} (h : off + 2 ≤ cs.length) : splice cs off [x, y] = (cs.set off x).set (off + 1) y := by
  refine List.ext_getElem? fun j => ?_
  simp only [splice, List.length_cons, List.length_nil]
  rw [List.getElem?_set, List.getElem?_set]
  by_cases h1 : j < off
  · rw [if_neg (by omega), if_neg (by omega), List.append_assoc, List.getElem?_append_left (by simp; omega), List.getElem?_take_of_lt h1]
  · by_cases h2 : j = off
    · subst h2
      rw [if_neg (by omega), if_pos rfl, if_pos (by omega), List.append_assoc, List.getElem?_append_right (by simp; omega)]
      simp [Nat.min_eq_left (show j ≤ cs.length by omega)]
    · by_cases h3 : j = off + 1
      · subst h3
        rw [if_pos rfl, if_pos (by simp; omega), List.append_assoc, List.getElem?_append_right (by simp; omega)]
        simp [Nat.min_eq_left (show off ≤ cs.length by omega)]
      · rw [if_neg (by omega), if_neg (by omega), List.getElem?_append_right (by simp; omega), List.getElem?_drop]
        congr 1
        simp
        omega

/-- A whole element of two cells is written. -/
theorem Sl.poke2 {α : Type} {r : Rp α} {S : List Nat} {h0 h : Heap} {v : AVal} {xs : List α} (hn : r.n = 2) (flat : ∀ {h h' cs x}, r.rep h cs x → r.rep h' cs x) (o : Sl r h v xs) (w : Wr h0 h v) (e0 : Ext S h0 h) {i : Nat} {y : α} (hy : xs[i]? = some y) :
    ∃ b p B c, ixsR 2 v (.int .i64 (i : Int)) = some (.ptr b p) ∧ Elem h b p B c ∧ r.rep h c y ∧
      ∀ (x1 x2 : AVal) (y' : α), x1.one = true → x2.one = true → r.rep h [x1, x2] y' → ∃ h', stR 2 h (.ptr b p) (.agg [x1, x2]) = .val aUndef h' ∧ Ext S h0 h' ∧ Wr h0 h' v ∧ Sl r h' v (xs.set i y') ∧
        ∀ (b2 : Nat) (cs : List AVal), Ob h b2 cs → Ob h' b2 cs := by
  obtain ⟨css, s, a⟩ := o
  obtain ⟨c, hc, hr⟩ := a.at hy
  have hlt : i < css.length := (List.getElem?_eq_some_iff.1 hc).1
  have hm := List.mem_of_getElem? hc
  rcases s with ⟨rfl, rfl⟩ | ⟨b, off, cap, sz, ex, B, rfl, h2, h3, h4, h5, h6, h7, h8⟩
  · simp at hc
  · obtain ⟨w1, w2, w3⟩ := w b (by simp [AVal.blks])
    rw [hn] at h2 h6 h7 h8
    have hcl := h8 c hm
    have hle : (i + 1) * 2 ≤ css.length * 2 := Nat.mul_le_mul_right _ hlt
    have hel : Elem h b (off + i * 2) B c := by
      refine ⟨h4, h5, by omega, ?_⟩
      have := flat_at h8 hc
      rw [← h7] at this
      rw [hcl, ← List.drop_drop]
      rw [List.drop_take, List.take_take, Nat.min_eq_left (by omega)] at this
      exact this
    refine ⟨b, off + i * 2, B, c, ?_, hel, hr, fun x1 x2 y' k1 k2 hy' => ?_⟩
    · simp only [ixsR, hn]
      rw [if_pos ⟨by omega, by omega⟩]
      simp
    · have hp : off + i * 2 + 2 ≤ B.length := by omega
      generalize hB : (B.set (off + i * 2) x1).set (off + i * 2 + 1) x2 = B'
      have hpg := fun j => Heap.get_putB h w2 (get_lt h4) (Heap.up_of_get w2 h4) B' j
      have e : stR 2 h (.ptr b (off + i * 2)) (.agg [x1, x2]) = .val aUndef (h.putB b B') := by
        simp only [stR, Heap.put]
        rw [if_pos (show (AVal.agg [x1, x2]).cells.length = 2 ∧ (AVal.agg [x1, x2]).cells.all AVal.one = true from ⟨rfl, by simp [AVal.cells, k1, k2]⟩), if_neg (show ¬ b < h.n0 by omega), h4]
        simp only
        rw [if_pos (show off + i * 2 + (AVal.agg [x1, x2]).cells.length ≤ B.length from hp)]
        show AR.val aUndef (h.putB b (splice B (off + i * 2) [x1, x2])) = _
        rw [splice_two hp, hB]
      refine ⟨_, e, e0.putD w2 h4 w1, fun b' hb' => ?_, ?_, fun b2 cs ob => ?_⟩
      · simp [AVal.blks] at hb'
        subst hb'
        refine ⟨?_, by rw [Heap.n0_putB]; exact w2, by rw [Heap.next_putB]; exact w3⟩
        unfold Heap.root
        rw [Heap.cls_putB]
        exact w1
      · have h8' : ∀ d, d ∈ css.set i [x1, x2] → d.length = 2 := fun d hd => by
          rcases List.mem_or_eq_of_mem_set hd with q | q
          · exact h8 d q
          · rw [q]; rfl
        have hl' : B'.length = B.length := by rw [← hB]; simp
        have hfl : (css.set i [x1, x2]).flatten = (css.flatten.set (i * 2) x1).set (i * 2 + 1) x2 := by
          have e1 := flat_set (x := x1) h8 hc (k := 0) (by omega)
          have hc' : (css.set i (c.set 0 x1))[i]? = some (c.set 0 x1) := by rw [List.getElem?_set]; simp [hlt]
          have h8'' : ∀ d, d ∈ css.set i (c.set 0 x1) → d.length = 2 := fun d hd => by
            rcases List.mem_or_eq_of_mem_set hd with q | q
            · exact h8 d q
            · rw [q, List.length_set]; exact hcl
          have e2 := flat_set (x := x2) h8'' hc' (k := 1) (by omega)
          rw [List.set_set, e1] at e2
          have : (c.set 0 x1).set 1 x2 = [x1, x2] := by
            match c, hcl with
            | [c0, c1], _ => rfl
          rw [this] at e2
          simpa using e2
        refine ⟨css.set i [x1, x2], .inr ⟨b, off, cap, sz, ex, _, by rw [List.length_set], by rw [hn]; exact h2, by rw [List.length_set]; exact h3, (hpg b).1 rfl, by rw [Heap.isM_putB]; exact h5, by rw [List.length_set, hn, hl']; exact h6, ?_, by rw [hn]; exact h8'⟩, (a.imp fun _ _ q => flat q).set (flat hy')⟩
        rw [List.length_set, hn, hfl, ← h7, ← hB, List.drop_set, List.drop_set, if_neg (by omega), if_neg (by omega), show off + i * 2 - off = i * 2 by omega, show off + i * 2 + 1 - off = i * 2 + 1 by omega, List.take_set, List.take_set]
      · have hne : b2 ≠ b := fun q => by subst q; have := ob.2.1; rw [h5] at this; cases this
        refine ⟨?_, by rw [Heap.isM_putB]; exact ob.2.1, by rw [Heap.cls_putB]; exact ob.2.2⟩
        rw [(hpg b2).2.2 hne fun ⟨_, r', q1, q2, _⟩ => by rw [ob.2.2] at q2; cases q2]
        exact ob.1

section
variable {X : XTab}

theorem NextL (hX : OnlyKnown X) (n : Int) (hn : In64 n) {h : Heap} {bf k : Nat} {L : AVal} {xs : List Int} (f : FeedL h bf k L xs) (hk : k < 2 ^ 62) :
    Tells (fun q => acallX Try.prog X q F_precentorhand_Feed_Next [.ptr bf 0, I n] h) fun v h' => ∃ r, v = I r ∧ 0 ≤ r ∧ (1 ≤ n → r < n) ∧ (n < 1 → r = 0) ∧ Ext [bf] h h' ∧ FeedL h' bf (k + 1) L xs := by
  refine R_precentorhand_Feed_Next _ _ (hX _ _ rfl) ?_
  unfold S_precentorhand_Feed_Next
  obtain ⟨a, h1, h2, h3, h4, h5⟩ := f
  have hlen := h4.len
  by_cases hz : xs.length = 0
  · simp [h1.1, hlen, hz]
    exact Tells.ok ⟨0, rfl, by omega, fun _ => by omega, fun _ => rfl, .refl, ⟨a, h1, h2, by omega, h4, h5⟩⟩
  · have hl : (xs.length : Int) ≠ 0 := by omega
    have hl2 : ((xs.length : Int) == 0) = false := beq_eq_false_iff_ne.2 hl
    have m0 : 0 ≤ a.tmod xs.length := Int.tmod_nonneg _ h2
    have m1 : a.tmod xs.length < xs.length := Int.tmod_lt_of_pos _ (by omega)
    obtain ⟨x, hx⟩ : ∃ x, xs[(a.tmod xs.length).toNat]? = some x := ⟨_, List.getElem?_eq_getElem (by omega)⟩
    obtain ⟨b, p, B, c, q1, q2, q3⟩ := h4.at (n := 1) rfl m0 hx
    have d0 : 0 ≤ a.tdiv xs.length := Int.tdiv_nonneg h2 (by omega)
    have d1 : a.tdiv xs.length ≤ a := Int.tdiv_le_self _ h2
    have w1 : IntKind.i64.wrap (a.tdiv xs.length) = a.tdiv xs.length := wrap_id (by omega) (by omega)
    have w2 : IntKind.i64.wrap (1 + a.tdiv xs.length) = 1 + a.tdiv xs.length := wrap_id (by omega) (by omega)
    have w3 : IntKind.i64.wrap (a + 1) = a + 1 := wrap_id (by omega) (by omega)
    have q4 := q2.ld0 (x := I x) (by rw [q3]; rfl)
    obtain ⟨h', s1, s2, s3⟩ := h1.st (off := 1) (n := 1) (v := I (a + 1)) rfl rfl (by simp)
    simp only [ld1_ptr, cell_eq] at q4
    simp [h1.1, hlen, hl2, J_precentorhand_Feed_Next_0, aBin_rem _ _ _ _ _ _ _ hl, aBin_quo _ _ _ _ _ _ _ hl, q1, q4, w1, w2, aBin_quo _ _ _ _ _ _ _ (show 1 + a.tdiv xs.length ≠ 0 by omega), w3, s1]
    refine Tells.bind (Pick hX _ n hn _) ?_
    rintro v h' ⟨rfl, rfl⟩
    exact Tells.ok ⟨_, rfl, pick_lo _ _, pick_hi _ _, fun q => by simp [pick, q], s3, ⟨a + 1, by simpa [splice] using s2, by omega, by omega, h4.ext s3, h5⟩⟩


theorem StampsL (hX : OnlyKnown X) {h : Heap} {bf k : Nat} {L : AVal} {ls : List Int} (f : FeedL h bf k L ls) (hk : k + 9 < 2 ^ 62) :
    Tells (fun q => acallX Try.prog X q F_precentorhand_Feed_Stamps [.ptr bf 0] h) fun a h' => ∃ xs, Gl pairR h h' a xs ∧ Wr h h' a ∧ xs.length ≤ 4 ∧ due [] xs = true ∧ Small xs 10 ∧ Ext [bf] h h' ∧ FeedL h' bf (k + 9) L ls := by
  refine R_precentorhand_Feed_Stamps _ (hX _ _ rfl) ?_
  refine Tells.prot fun Q' hQ => ?_
  unfold S_precentorhand_Feed_Stamps
  simp
  refine Tells.bind (NextL hX 5 ⟨by omega, by omega⟩ f (by omega)) ?_
  rintro _ h1 ⟨c, rfl, c0, c1, _, x1, f1⟩
  have c1 := c1 (by omega)
  try simp
  refine Tells.bind (Tells.loop (fun n t g => ∃ (i : Nat) (xs : List (Int × Int)) (a : Int), t 0 = .ptr bf 0 ∧ t 5 = I n ∧ t 4 = I a ∧ 0 ≤ a ∧ a ≤ 4 * i ∧ i + n ≤ 4 ∧ xs.length = i ∧ Gl pairR h g (t 3) xs ∧ Wr h g (t 3) ∧ due [] xs = true ∧ (∀ x, x ∈ xs → x.1 < a) ∧ Small xs 10 ∧ Ext [bf] h g ∧ FeedL g bf (k + 1 + 2 * i) L ls)
    (Q := fun p g => p.1 = .exit 0 ∧ ∃ xs, Gl pairR h g (p.2 3) xs ∧ Wr h g (p.2 3) ∧ xs.length ≤ 4 ∧ due [] xs = true ∧ Small xs 10 ∧ Ext [bf] h g ∧ FeedL g bf (k + 9) L ls) ?_ c.toNat _ _ ?_) ?_
  · rintro n t g ⟨i, xs, a, t0, t5, t4, a0, a1, hi, hl, go, wr, hd, hx, sm, x, fg⟩
    refine Tells.prot fun Q2 hQ2 => ?_
    unfold L_precentorhand_Feed_Stamps_1
    simp [t5]
    refine Tells.cb (fun hc => ?_) (fun hc => ?_)
    · simp at hc
      simp [J_precentorhand_Feed_Stamps_2, t0, t4]
      refine Tells.bind (NextL hX 4 ⟨by omega, by omega⟩ fg (by omega)) ?_
      rintro _ h2 ⟨u, rfl, u0, u1, _, x2, f2⟩
      have u1 := u1 (by omega)
      have w1 : IntKind.i64.wrap (a + u) = a + u := wrap_id (by omega) (by omega)
      simp [w1, t0]
      refine Tells.bind (NextL hX 5 ⟨by omega, by omega⟩ f2 (by omega)) ?_
      rintro _ h3 ⟨r, rfl, r0, r1, _, x3, f3⟩
      have r1 := r1 (by omega)
      have w2 : IntKind.i64.wrap (1 + r) = 1 + r := wrap_id (by omega) (by omega)
      have w3 : IntKind.i64.wrap (a + u + 1) = a + u + 1 := wrap_id (by omega) (by omega)
      have w4 : IntKind.i64.wrap ((n : Int) - 1) = ((n - 1 : Nat) : Int) := by rw [wrap_id (by omega) (by omega)]; omega
      simp [w2, bldR, fillR, splice]
      have g3 : Gl pairR h h3 (t 3) xs := go.extO (x2.trans x3) (by simp [fg.m])
      have wr3 : Wr h h3 (t 3) := wr.ext (x2.trans x3)
      refine Tells.app1W g3 wr3 (by rfl) (by rfl) (show pairR.rep h3 [I (a + u), I (1 + r)] (a + u, 1 + r) from rfl) (by rfl) (by rfl) (by omega) (by decide) (Nat.le_trans x.next (Nat.le_trans x2.next x3.next)) fun s4 h4 g4 wr4 x4 y4 z4 => ?_
      have hxm : ∀ y, y ∈ xs → y.1 < a + u := fun y hy => by have := hx y hy; omega
      simp [w3, J_precentorhand_Feed_Stamps_3, t5, w4]
      refine Tells.ok (hQ2 _ _ (.inl ⟨rfl, n - 1, by omega, i + 1, xs ++ [(a + u, 1 + r)], a + u + 1, by simp [t0], by simp, by simp, by omega, by omega, by omega, by simp [hl], by simpa using g4, by simpa using wr4, ?_, ?_, ?_, y4 _ ((x.trans x2).trans x3), ?_⟩))
      · rw [due_snoc hxm, hd]; simp [has]
      · intro y hy
        rcases List.mem_append.1 hy with hy | hy
        · have := hxm y hy; omega
        · simp at hy; subst hy; simp; omega
      · intro y hy
        rcases List.mem_append.1 hy with hy | hy
        · exact sm y hy
        · simp at hy; subst hy; simp; omega
      · exact (f3.ext x4 (fg.out go.1)).mono (by omega)
    · simp at hc
      exact Tells.ok (hQ2 _ _ (.inr ⟨by simp, rfl, xs, by simpa using go, by simpa using wr, by omega, hd, sm, x, fg.mono (by omega)⟩))
  · exact ⟨0, [], 0, by simp, by simp; omega, by simp, by omega, by omega, by omega, rfl, by simpa using Gl.nil, fun b hb => by simp [AVal.blks] at hb, rfl, by simp, fun _ h => by simp at h, x1, f1.mono (by omega)⟩
  · rintro ⟨ex, t⟩ g ⟨rfl, xs, go, wr, hl, hd, sm, x, fg⟩
    simp [J_precentorhand_Feed_Stamps_0]
    exact Tells.ok (hQ _ _ ⟨xs, go, wr, hl, hd, sm, x, fg⟩)

end
end Go.Proofs.Ytodccjbgomimjaa
