/-
  Rows that have room of their own: cut at the end, then appended to in place.
-/
import Derived.Test.YtbkfamdkdjajjaaPoke
set_option linter.unusedVariables false
set_option linter.unusedSimpArgs false
namespace Go.Ab

/-- A row that append told, cut at its end perhaps, whose class began since h0. -/
def Rm (h0 h : Heap) (n : Nat) (v : AVal) : Prop := ∃ b off len cap, v = .sl b off len cap n false ∧ len ≤ cap ∧ h.n0 ≤ b ∧ h.isM b = false ∧ h.spent b = false ∧ ∃ r B, h.cls b = some r ∧ h0.next ≤ r ∧ h.get b = some B ∧ B.length = off + cap * n ∧ h.only r = false

theorem Rm.of {h0 h : Heap} {n b off len cap sz : Nat} (g : Gro h0 h n (.sl b off len cap sz false)) : Rm h0 h n (.sl b off len cap sz false) := by
  rcases g with g | ⟨b', off', len', cap', sz', ex', g0, g⟩
  · cases g
  · cases g0
    rcases g with ⟨g1, g2⟩ | ⟨g1, g2, g3, g4, g5, g6, r, B, g7, g8, g9, g10, g11⟩
    · cases g1
    · subst g2; subst g3
      exact ⟨b, off, _, _, rfl, Nat.le_refl _, g4, g5, g6, r, B, g7, g8, g9, g10, g11⟩
/-- Cut at the end. -/
theorem Rm.cut {h0 h : Heap} {n b off len cap len' : Nat} (g : Rm h0 h n (.sl b off len cap n false)) (hl : len' ≤ len) : Rm h0 h n (.sl b off len' cap n false) := by
  obtain ⟨b', off', l, c, e, g1, g2⟩ := g
  cases e
  exact ⟨b, off, len', cap, rfl, by omega, g2⟩
/-- No room left: append makes a new row. -/
theorem Rm.gro {h0 h : Heap} {n b off len : Nat} (g : Rm h0 h n (.sl b off len len n false)) : Gro h0 h n (.sl b off len len n false) := by
  obtain ⟨b', off', l, c, e, g1, g2, g3, g4, r, B, g5, g6, g7, g8, g9⟩ := g
  cases e
  exact .inr ⟨b, off, len, len, n, false, rfl, .inr ⟨rfl, rfl, rfl, g2, g3, g4, r, B, g5, g6, g7, g8, g9⟩⟩

theorem only_putB_self (h : Heap) {b r : Nat} (x : List AVal) (hn : h.n0 ≤ r) (hr : h.cls b = some r) (hs : h.spent b = false) (ho : h.only r = false) : (h.putB b x).only r = false := by
  unfold Heap.putB
  rw [hr]
  simp only [Heap.only]
  rw [Tr.get_set]
  simp [hs]
  exact ho

theorem splice_take {B c : List AVal} {off k : Nat} (h : off + k + c.length ≤ B.length) : ((splice B (off + k) c).drop off).take (k + c.length) = (B.drop off).take k ++ c := by
  simp only [splice]
  rw [List.append_assoc, List.drop_append_of_le_length (by simp; omega), List.drop_take, show off + k - off = k by omega]
  have e : ((B.drop off).take k).length = k := by simp; omega
  rw [← List.append_assoc, List.take_append_of_le_length (by simp; omega)]
  rw [List.take_of_length_le (by simp; omega)]

section
variable {α : Type} {r : Rp α}
/-- append(s, x), s cut at its end: in place. -/
theorem Rm.put1 {h0 h : Heap} {b off len cap n by_ : Nat} {xs : List α} {c : List AVal} {x : α} (flat : ∀ {h h' cs x}, r.rep h cs x → r.rep h' cs x) (o : Sl r h (.sl b off len cap n false) xs) (g : Rm h0 h n (.sl b off len cap n false)) (hlt : len < cap) (hx : r.rep h c x) (hn : r.n = n) :
    ∃ h', appR n by_ (h.new false c) (.sl b off len cap n false) (.sl h.next 0 1 1 n true) = .val (.sl b off (len + 1) cap n false) h' ∧ Sl r h' (.sl b off (len + 1) cap n false) (xs ++ [x]) ∧ Rm h0 h' n (.sl b off (len + 1) cap n false) ∧ (∀ S, Ext S h0 h → Ext S h0 h') ∧ (∀ b, h'.root b = h.root b) ∧
      (∀ (b2 : Nat) (cs : List AVal), Ob h b2 cs → Ob h' b2 cs) ∧ ∀ (u : AVal) (us : List α) (m : Nat), Sl r h u us → (∀ b, b ∈ u.blks → m ≤ h.root b) → h.root b < m → Sl r h' u us := by
  subst hn
  have hc : c.length = r.n := r.len hx
  have hone := r.one hx
  have e1 := Ext.new h false c
  obtain ⟨b', off', l, cp, e, g1, g2, g3, g4, rt, B, g5, g6, g7, g8, g9⟩ := g
  cases e
  have hb := get_lt g7
  have hB1 : (h.new false c).get b = some B := by rw [e1.get b (.inl g3) (by rw [g7]; rfl)]; exact g7
  obtain ⟨css, s, a⟩ := o
  rcases s with ⟨q, _⟩ | ⟨b2, off2, cap2, sz2, ex2, B2, q, o2, o3, o4, o5, o6, o7, o8⟩
  · cases q
  · cases q
    rw [g7] at o4; cases o4
    have hle1 : (css.length + 1) * r.n ≤ cap * r.n := Nat.mul_le_mul_right _ hlt
    rw [Nat.add_mul, Nat.one_mul] at hle1
    have hfit : off + css.length * r.n + c.length ≤ B.length := by omega
    have g2' : (h.new false c).n0 ≤ b := g2
    have hsrc : aSource (h.new false c) r.n false (.sl h.next 0 1 1 r.n true) = some (1, c) := by
      simp only [aSource, Heap.cells, Heap.get_new, if_true]
      rw [if_neg (by simp), if_neg (by simp), if_pos (by omega)]
      simp [← hc]
    have hcells : (h.new false c).cells b off (css.length * r.n) = some css.flatten := by
      simp only [Heap.cells, hB1]
      rw [if_pos o6, o7]
    generalize hB' : splice B (off + css.length * r.n) c = B'
    have hpg := fun j => Heap.get_putB (h.new false c) g2' (get_lt hB1) (Heap.up_of_get g2' hB1) B' j
    have hput : (h.new false c).put b (off + css.length * r.n) c = some ((h.new false c).putB b B') := by
      simp only [Heap.put]
      rw [if_neg (by omega), hB1]
      simp only
      rw [if_pos hfit, hB']
    have happ : appR r.n by_ (h.new false c) (.sl b off css.length cap r.n false) (.sl h.next 0 1 1 r.n true) = .val (.sl b off (css.length + 1) cap r.n false) ((h.new false c).putB b B') := by
      unfold appR
      rw [hsrc]
      simp only [hcells]
      rw [if_pos (by omega), if_neg (by omega), if_pos (.inr trivial), if_pos hone, hput]
    have hroot : (h.new false c).root b = rt := by unfold Heap.root; rw [Heap.cls_new, g5]
    have hl' : B'.length = B.length := by
      rw [← hB']; simp [splice]; omega
    have hpos : 0 < r.n := r.pos
    refine ⟨_, happ, ?_, ⟨b, off, _, cap, rfl, hlt, by rw [Heap.n0_putB]; exact g2', by rw [Heap.isM_putB, isM_new, if_neg (by omega)]; exact g3, by rw [Heap.spent_putB, Heap.spent_new]; exact g4, rt, B', by rw [Heap.cls_putB, Heap.cls_new]; exact g5, g6, (hpg b).1 rfl, by rw [hl', g8], ?_⟩, fun S e => ?_, fun b => by unfold Heap.root; rw [Heap.cls_putB, Heap.cls_new], fun b2 cs ob => ?_, fun u us m ou hu hv => ?_⟩
    · refine ⟨css ++ [c], .inr ⟨b, off, cap, r.n, false, B', by simp, .inr rfl, by simp; omega, (hpg b).1 rfl, by rw [Heap.isM_putB, isM_new, if_neg (by omega)]; exact g3, by rw [hl', List.length_append, Nat.add_mul]; simp; omega, ?_, fun d hd => ?_⟩, ?_⟩
      · rw [List.length_append, Nat.add_mul, List.length_singleton, Nat.one_mul, ← hB']
        have := splice_take hfit
        rw [hc] at this
        rw [this, o7]
        simp
      · rcases List.mem_append.1 hd with q | q
        · exact o8 d q
        · simp at q; rw [q]; exact hc
      · exact All2.app (a.imp fun _ _ q => flat q) ⟨flat hx, trivial⟩
    · have hr := Heap.cls_eq g5
      refine only_putB_self _ B' hr.1 (by rw [Heap.cls_new]; exact g5) (by rw [Heap.spent_new]; exact g4) ?_
      rw [e1.on rt hr.1 (by omega)]
      exact g9
    · exact (e.quiet e1).putD g2' hB1 (by rw [hroot]; exact g6)
    · have ob1 := ob.e e1
      have hne : b2 ≠ b := fun q => by subst q; have := ob.2.1; rw [g3] at this; cases this
      refine ⟨?_, by rw [Heap.isM_putB]; exact ob1.2.1, by rw [Heap.cls_putB]; exact ob1.2.2⟩
      rw [(hpg b2).2.2 hne fun ⟨_, r', q1, q2, _⟩ => by rw [ob1.2.2] at q2; cases q2]
      exact ob1.1
    · have ou1 := ou.ext e1
      have hur : ∀ b, b ∈ u.blks → m ≤ (h.new false c).root b := fun b hb => by rw [root_ext e1 (ou.blk b hb).2]; exact hu b hb
      have hvr : (h.new false c).root b < m := by rw [root_ext e1 hb]; exact hv
      obtain ⟨css2, s2, a2⟩ := ou1
      rcases s2 with ⟨rfl, rfl⟩ | ⟨b2, off2, cap2, sz2, ex2, B2, rfl, k2, k3, k4, k5, k6, k7, k8⟩
      · exact ⟨[], .inl ⟨rfl, rfl⟩, a2.imp fun _ _ q => flat q⟩
      · have r1 := hur b2 (by simp [AVal.blks])
        have hne : b2 ≠ b := fun q => by subst q; omega
        refine ⟨css2, .inr ⟨b2, off2, cap2, sz2, ex2, B2, rfl, k2, k3, ?_, by rw [Heap.isM_putB]; exact k5, k6, k7, k8⟩, a2.imp fun _ _ q => flat q⟩
        rw [(hpg b2).2.2 hne fun ⟨_, r', j1, j2, _⟩ => by
          have e1 : (h.new false c).root b = r' := by unfold Heap.root; rw [j1]
          have e2 : (h.new false c).root b2 = r' := by unfold Heap.root; rw [j2]
          omega]
        exact k4
end

end Go.Ab
