/-
  Reckoning in the S-forms: a write into a row leaves all rows of other classes as they are.
-/
import Derived.Test.YtochkdifpgelmaaB3
set_option linter.unusedVariables false
set_option linter.unusedSimpArgs false
namespace Go.Ab

/-- A heap in which block b, and those of its class, may be others. -/
structure ExtC (b : Nat) (h h' : Heap) : Prop where
  n0 : h'.n0 = h.n0
  next : h'.next = h.next
  get : ∀ c, c ≠ b → (∀ r, h.cls b = some r → h.cls c ≠ some r) → h'.get c = h.get c
  cls : ∀ c, h'.cls c = h.cls c
  isM : ∀ c, h'.isM c = h.isM c
  sp : ∀ c, h'.spent c = h.spent c
  on : ∀ r, h.n0 ≤ r → h.cls b ≠ some r → h'.only r = h.only r
theorem ExtC.putB {h : Heap} {b : Nat} {B : List AVal} (hb : h.n0 ≤ b) (hB : h.get b = some B) (x : List AVal) : ExtC b h (h.putB b x) := by
  refine ⟨Heap.n0_putB _ _ _, Heap.next_putB _ _ _, fun c hc hr => ?_, fun c => Heap.cls_putB _ _ _ c, fun c => Heap.isM_putB _ _ _ c, fun c => Heap.spent_putB _ _ _ c, fun r h0 hr => only_putB h x h0 hr⟩
  exact (Heap.get_putB h hb (get_lt hB) (Heap.up_of_get hb hB) x c).2.2 hc fun ⟨_, r, q1, q2, _⟩ => hr r q1 q2

/-- No block of v's is b, or of its class. -/
def Apart (h : Heap) (b : Nat) (v : AVal) : Prop := ∀ c, c ∈ v.blks → c ≠ b ∧ ∀ r, h.cls b = some r → h.cls c ≠ some r
theorem Apart.nil {h : Heap} {b : Nat} : Apart h b .nils := fun c hc => by simp [AVal.blks] at hc
theorem Apart.extC {h h' : Heap} {b b' : Nat} {v : AVal} (a : Apart h b v) (x : ExtC b' h h') : Apart h' b v := fun c hc => ⟨(a c hc).1, fun r hr => by rw [x.cls] at hr ⊢; exact (a c hc).2 r hr⟩
theorem Apart.ext {S : List Nat} {h h' : Heap} {b : Nat} {v : AVal} (a : Apart h b v) (x : Ext S h h') (hb : b < h.next) (hv : ∀ c, c ∈ v.blks → c < h.next) : Apart h' b v := fun c hc => ⟨(a c hc).1, fun r hr => by rw [x.cls b hb] at hr; rw [x.cls c (hv c hc)]; exact (a c hc).2 r hr⟩
/-- By where their classes began. -/
theorem Apart.of {h : Heap} {b : Nat} {v : AVal} (k : ∀ c, c ∈ v.blks → h.root c ≠ h.root b) : Apart h b v := fun c hc => by
  have := k c hc
  refine ⟨fun q => by subst q; exact this rfl, fun r hr hc' => this ?_⟩
  unfold Heap.root
  rw [hr, hc']

theorem only_putC (h : Heap) {b r : Nat} (x : List AVal) (hn : h.n0 ≤ r) (hr : h.cls b = some r) (hs : h.spent b = false) (ho : h.only r = false) : (h.putB b x).only r = false := by
  unfold Heap.putB
  rw [hr]
  simp only [Heap.only]
  rw [Tr.get_set]
  simp [hs]
  exact ho
/-- A row that is written in place may be appended to still. -/
theorem Gro.putB {h0 h : Heap} {n b off len cap sz : Nat} {ex : Bool} {B x : List AVal} (g : Gro h0 h n (.sl b off len cap sz ex)) (hb : h.n0 ≤ b) (hB : h.get b = some B) (hx : x.length = B.length) : Gro h0 (h.putB b x) n (.sl b off len cap sz ex) := by
  rcases g with g | ⟨b', off', len', cap', sz', ex', e, g⟩
  · cases g
  · cases e
    rcases g with g | ⟨g1, g2, g3, g4, g5, g6, r, B', g7, g8, g9, g10, g11⟩
    · exact .inr ⟨_, _, _, _, _, _, rfl, .inl g⟩
    · rw [hB] at g9
      cases g9
      exact .inr ⟨_, _, _, _, _, _, rfl, .inr ⟨g1, g2, g3, by rw [Heap.n0_putB]; exact g4, by rw [Heap.isM_putB]; exact g5, by rw [Heap.spent_putB]; exact g6, r, x, by rw [Heap.cls_putB]; exact g7, g8,
        (Heap.get_putB h hb (get_lt hB) (Heap.up_of_get hb hB) x b).1 rfl, by rw [hx]; exact g10, only_putC h x (Heap.cls_eq g7).1 g7 g6 g11⟩⟩

/-- What is older stays. -/
theorem Ext.extC {S : List Nat} {h0 h h' : Heap} {b : Nat} (e : Ext S h0 h) (x : ExtC b h h') (hr : h0.next ≤ h.root b) : Ext S h0 h' := by
  have hb : h0.next ≤ b := Nat.le_trans hr (root_le h b)
  have cl : ∀ c, c < h0.next → ∀ r, h.cls b = some r → h.cls c ≠ some r := fun c hc r h1 h2 => by
    have h3 := (Heap.cls_eq h2).2.1
    unfold Heap.root at hr
    rw [h1] at hr
    have hr : h0.next ≤ r := hr
    omega
  refine ⟨by rw [x.n0]; exact e.n0, by rw [x.next]; exact e.next, fun c h1 h2 => ?_, fun c hc => by rw [x.cls]; exact e.cls c hc, fun c hc => by rw [x.isM]; exact e.isM c hc, fun c h1 h2 h3 => by rw [x.sp]; exact e.sp c h1 h2 h3, fun r h1 h2 => ?_⟩
  · have hc := some_lt h2
    rw [x.get c (by omega) (cl c hc)]
    exact e.get c h1 h2
  · rw [x.on r (by rw [e.n0]; exact h1) fun q => ?_]
    · exact e.on r h1 h2
    · unfold Heap.root at hr
      rw [q] at hr
      have hr : h0.next ≤ r := hr
      omega
section
variable {α : Type} {r : Rp α} {h h' : Heap} {b : Nat} {v : AVal} {xs : List α} {n : Nat}
theorem SlC.extC {css : List (List AVal)} (o : SlC h n v css) (x : ExtC b h h') (a : Apart h b v) : SlC h' n v css := by
  rcases o with o | ⟨b', off, cap, sz, ex, B, rfl, h2, h3, h4, h5, h6⟩
  · exact .inl o
  · obtain ⟨a1, a2⟩ := a b' (by simp [AVal.blks])
    exact .inr ⟨b', off, cap, sz, ex, B, rfl, h2, h3, by rw [x.get b' a1 a2]; exact h4, by rw [x.isM]; exact h5, h6⟩
theorem Sl.extC (flat : ∀ {h h' cs x}, r.rep h cs x → r.rep h' cs x) (o : Sl r h v xs) (x : ExtC b h h') (a : Apart h b v) : Sl r h' v xs := by
  obtain ⟨css, h1, h2⟩ := o
  exact ⟨css, h1.extC x a, h2.imp fun _ _ k => flat k⟩
theorem Gro.extC {h0 : Heap} (g : Gro h0 h n v) (x : ExtC b h h') (a : Apart h b v) : Gro h0 h' n v := by
  rcases g with g | ⟨b', off, len, cap, sz, ex, rfl, g | ⟨g1, g2, g3, g4, g5, g6, r, B, g7, g8, g9, g10, g11⟩⟩
  · exact .inl g
  · exact .inr ⟨b', off, len, cap, sz, ex, rfl, .inl g⟩
  · obtain ⟨a1, a2⟩ := a b' (by simp [AVal.blks])
    exact .inr ⟨b', off, len, cap, sz, ex, rfl, .inr ⟨g1, g2, g3, by rw [x.n0]; exact g4, by rw [x.isM]; exact g5, by rw [x.sp]; exact g6, r, B, by rw [x.cls]; exact g7, g8, by rw [x.get b' a1 a2]; exact g9, g10,
      by rw [x.on r (Heap.cls_eq g7).1 fun q => a2 r q g7]; exact g11⟩⟩
theorem Gl.extC {h0 : Heap} (flat : ∀ {h h' cs x}, r.rep h cs x → r.rep h' cs x) (g : Gl r h0 h v xs) (x : ExtC b h h') (a : Apart h b v) : Gl r h0 h' v xs := ⟨g.1.extC flat x a, g.2.extC x a⟩
theorem Ob.extC {c : Nat} {cs : List AVal} (o : Ob h c cs) (x : ExtC b h h') (hb : h.isM b = false) : Ob h' c cs := by
  have hne : c ≠ b := fun q => by subst q; have := o.2.1; rw [hb] at this; cases this
  exact ⟨by rw [x.get c hne fun r _ q => by rw [o.2.2] at q; cases q]; exact o.1, by rw [x.isM]; exact o.2.1, by rw [x.cls]; exact o.2.2⟩

/-- A cell of a row of one's own, whose elements hold no row. -/
theorem pokeC (hn : r.n = n) (flat : ∀ {h h' cs x}, r.rep h cs x → r.rep h' cs x) (o : Sl r h v xs) (w : ∀ b, b ∈ v.blks → h.n0 ≤ b) {i : Nat} {y : α} (hy : xs[i]? = some y) :
    ∃ b p B c, v.blks = [b] ∧ h.isM b = false ∧ b < h.next ∧ ixsR n v (.int .i64 (i : Int)) = some (.ptr b p) ∧ Elem h b p B c ∧ r.rep h c y ∧
      ∀ (k : Nat) (x : AVal) (y' : α), k < n → x.cells = [x] → x.one = true → r.rep h (c.set k x) y' → ∃ h', stR 1 h (.ptr b (p + k)) x = .val aUndef h' ∧ ExtC b h h' ∧ Sl r h' v (xs.set i y') ∧ ∀ h0, Gro h0 h n v → Gro h0 h' n v := by
  subst hn
  obtain ⟨css, s, a⟩ := o
  obtain ⟨c, hc, hr⟩ := a.at hy
  have hlt : i < css.length := (List.getElem?_eq_some_iff.1 hc).1
  have hm := List.mem_of_getElem? hc
  rcases s with ⟨rfl, rfl⟩ | ⟨b, off, cap, sz, ex, B, rfl, h2, h3, h4, h5, h6, h7, h8⟩
  · simp at hc
  · have w2 := w b (by simp [AVal.blks])
    have hcl := h8 c hm
    have hle : (i + 1) * r.n ≤ css.length * r.n := Nat.mul_le_mul_right _ hlt
    rw [Nat.add_mul, Nat.one_mul] at hle
    have hel : Elem h b (off + i * r.n) B c := by
      refine ⟨h4, h5, by omega, ?_⟩
      have := flat_at h8 hc
      rw [← h7] at this
      rw [hcl, ← List.drop_drop]
      rw [List.drop_take, List.take_take, Nat.min_eq_left (by omega)] at this
      exact this
    refine ⟨b, off + i * r.n, B, c, rfl, h5, get_lt h4, ?_, hel, hr, fun k x y' hk hx h1 hy' => ?_⟩
    · simp only [ixsR]
      rw [if_pos ⟨by omega, by omega⟩]
      simp
    · have hp : off + i * r.n + k < B.length := by omega
      have hpg := fun j => Heap.get_putB h w2 (get_lt h4) (Heap.up_of_get w2 h4) (B.set (off + i * r.n + k) x) j
      have e : stR 1 h (.ptr b (off + i * r.n + k)) x = .val aUndef (h.putB b (B.set (off + i * r.n + k) x)) := by
        simp only [stR, Heap.put, hx]
        rw [if_pos ⟨rfl, by simp [h1]⟩, if_neg (by omega), h4]
        simp only [List.length_singleton]
        rw [if_pos (by omega), splice_set hp]
      refine ⟨_, e, ExtC.putB w2 h4 _, ?_, fun h0 g => g.putB w2 h4 (by simp)⟩
      have h8' : ∀ d, d ∈ css.set i (c.set k x) → d.length = r.n := fun d hd => by
        rcases List.mem_or_eq_of_mem_set hd with q | q
        · exact h8 d q
        · rw [q, List.length_set]; exact hcl
      refine ⟨css.set i (c.set k x), .inr ⟨b, off, cap, sz, ex, _, by rw [List.length_set], h2, by rw [List.length_set]; exact h3, (hpg b).1 rfl, by rw [Heap.isM_putB]; exact h5, by rw [List.length_set, List.length_set]; exact h6, ?_, h8'⟩, (a.imp fun _ _ q => flat q).set (flat hy')⟩
      rw [List.length_set, flat_set h8 hc hk, ← h7, List.drop_set, if_neg (by omega), show off + i * r.n + k - off = i * r.n + k by omega, List.take_set]
end
end Go.Ab
