/-
  A write into one row leaves a row of another class as it is.
-/
import Derived.Test.YtbkfamdkdjajjaaB3
set_option linter.unusedVariables false
set_option linter.unusedSimpArgs false
namespace Go.Ab

/-- A cell of a row of one's own, whose elements hold no row. -/
theorem pokeX {α : Type} {r : Rp α} {n : Nat} {S : List Nat} {h0 h : Heap} {v : AVal} {xs : List α} (hn : r.n = n) (flat : ∀ {h h' cs x}, r.rep h cs x → r.rep h' cs x) (o : Sl r h v xs) (w : Wr h0 h v) (e0 : Ext S h0 h) {i : Nat} {y : α} (hy : xs[i]? = some y) :
    ∃ b p B c, ixsR n v (.int .i64 (i : Int)) = some (.ptr b p) ∧ Elem h b p B c ∧ r.rep h c y ∧
      ∀ (k : Nat) (x : AVal) (y' : α), k < n → x.cells = [x] → x.one = true → r.rep h (c.set k x) y' → ∃ h', stR 1 h (.ptr b (p + k)) x = .val aUndef h' ∧ Ext S h0 h' ∧ Wr h0 h' v ∧ Sl r h' v (xs.set i y') ∧ h'.next = h.next ∧
        (∀ c, h'.isM c = h.isM c) ∧ (∀ (b2 : Nat) (cs : List AVal), Ob h b2 cs → Ob h' b2 cs) ∧ ∀ (u : AVal) (us : List α) (m : Nat), Sl r h u us → (∀ b, b ∈ u.blks → m ≤ h.root b) → (∀ b, b ∈ v.blks → h.root b < m) → Sl r h' u us := by
  subst hn
  obtain ⟨css, s, a⟩ := o
  obtain ⟨c, hc, hr⟩ := a.at hy
  have hlt : i < css.length := (List.getElem?_eq_some_iff.1 hc).1
  have hm := List.mem_of_getElem? hc
  rcases s with ⟨rfl, rfl⟩ | ⟨b, off, cap, sz, ex, B, rfl, h2, h3, h4, h5, h6, h7, h8⟩
  · simp at hc
  · obtain ⟨w1, w2, w3⟩ := w b (by simp [AVal.blks])
    have hcl := h8 c hm
    have hle : (i + 1) * r.n ≤ css.length * r.n := Nat.mul_le_mul_right _ hlt
    rw [Nat.add_mul, Nat.one_mul] at hle
    have hel : Elem h b (off + i * r.n) B c := by
      refine ⟨h4, h5, by omega, ?_⟩
      have := flat_at h8 hc
      rw [← h7] at this
      rw [hcl, ← List.drop_drop]
      rw [List.drop_take, List.take_take, Nat.min_eq_left (by omega)] at this
      exact this
    refine ⟨b, off + i * r.n, B, c, ?_, hel, hr, fun k x y' hk hx h1 hy' => ?_⟩
    · simp only [ixsR]
      rw [if_pos ⟨by omega, by omega⟩]
      simp
    · have hp : off + i * r.n + k < B.length := by omega
      have hpg := fun j => Heap.get_putB h w2 (get_lt h4) (Heap.up_of_get w2 h4) (B.set (off + i * r.n + k) x) j
      have e : stR 1 h (.ptr b (off + i * r.n + k)) x = .val aUndef (h.putB b (B.set (off + i * r.n + k) x)) := by
        simp only [stR, Heap.put, hx]
        rw [if_pos ⟨rfl, by simp [h1]⟩, if_neg (by omega), h4]
        simp only [List.length_singleton]
        rw [if_pos (by omega), splice_set hp]
      refine ⟨_, e, e0.putD w2 h4 w1, fun b' hb' => ?_, ?_, Heap.next_putB _ _ _, fun c => Heap.isM_putB _ _ _ c, fun b2 cs ob => ?_, fun u us m ou hu hv => ?_⟩
      · simp [AVal.blks] at hb'
        subst hb'
        refine ⟨?_, by rw [Heap.n0_putB]; exact w2, by rw [Heap.next_putB]; exact w3⟩
        unfold Heap.root
        rw [Heap.cls_putB]
        exact w1
      · have h8' : ∀ d, d ∈ css.set i (c.set k x) → d.length = r.n := fun d hd => by
          rcases List.mem_or_eq_of_mem_set hd with q | q
          · exact h8 d q
          · rw [q, List.length_set]; exact hcl
        refine ⟨css.set i (c.set k x), .inr ⟨b, off, cap, sz, ex, _, by rw [List.length_set], h2, by rw [List.length_set]; exact h3, (hpg b).1 rfl, by rw [Heap.isM_putB]; exact h5, by rw [List.length_set, List.length_set]; exact h6, ?_, h8'⟩, (a.imp fun _ _ q => flat q).set (flat hy')⟩
        rw [List.length_set, flat_set h8 hc hk, ← h7, List.drop_set, if_neg (by omega), show off + i * r.n + k - off = i * r.n + k by omega, List.take_set]
      · have hne : b2 ≠ b := fun q => by subst q; have := ob.2.1; rw [h5] at this; cases this
        refine ⟨?_, by rw [Heap.isM_putB]; exact ob.2.1, by rw [Heap.cls_putB]; exact ob.2.2⟩
        rw [(hpg b2).2.2 hne fun ⟨_, r', q1, q2, _⟩ => by rw [ob.2.2] at q2; cases q2]
        exact ob.1
      · obtain ⟨css2, s2, a2⟩ := ou
        rcases s2 with ⟨rfl, rfl⟩ | ⟨b2, off2, cap2, sz2, ex2, B2, rfl, g2, g3, g4, g5, g6, g7, g8⟩
        · exact ⟨[], .inl ⟨rfl, rfl⟩, a2.imp fun _ _ q => flat q⟩
        · have r1 := hu b2 (by simp [AVal.blks])
          have r2 := hv b (by simp [AVal.blks])
          have hne : b2 ≠ b := fun q => by subst q; omega
          refine ⟨css2, .inr ⟨b2, off2, cap2, sz2, ex2, B2, rfl, g2, g3, ?_, by rw [Heap.isM_putB]; exact g5, g6, g7, g8⟩, a2.imp fun _ _ q => flat q⟩
          rw [(hpg b2).2.2 hne fun ⟨_, r', k1, k2, _⟩ => by
            have e1 : h.root b = r' := by unfold Heap.root; rw [k1]
            have e2 : h.root b2 = r' := by unfold Heap.root; rw [k2]
            omega]
          exact g4

end Go.Ab
