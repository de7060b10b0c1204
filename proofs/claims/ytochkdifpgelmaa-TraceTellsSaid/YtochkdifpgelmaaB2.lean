/-
  Reckoning in the S-forms: steps that change the heap.
-/
import Derived.Test.YtochkdifpgelmaaB1
set_option linter.unusedVariables false
set_option linter.unusedSimpArgs false
namespace Go.Ab

theorem splice_set {cs : List AVal} {off : Nat} {v : AVal} (h : off < cs.length) : splice cs off [v] = cs.set off v := by
  simp only [splice, List.length_singleton]
  rw [List.set_eq_take_append_cons_drop, if_pos h]
  simp
/-- A row of one's own: made since h0. -/
def Wr (h0 h : Heap) (v : AVal) : Prop := ∀ b, b ∈ v.blks → h0.next ≤ h.root b ∧ h.n0 ≤ b ∧ b < h.next
theorem root_ext {S : List Nat} {h h' : Heap} (e : Ext S h h') {b : Nat} (hb : b < h.next) : h'.root b = h.root b := by unfold Heap.root; rw [e.cls b hb]
theorem Wr.ext {S : List Nat} {h0 h h' : Heap} {v : AVal} (w : Wr h0 h v) (e : Ext S h h') : Wr h0 h' v := fun b hb => by
  obtain ⟨w1, w2, w3⟩ := w b hb
  exact ⟨by rw [root_ext e w3]; exact w1, by rw [e.n0]; exact w2, Nat.lt_of_lt_of_le w3 e.next⟩
theorem Wr.back {h0 h1 h : Heap} {v : AVal} (w : Wr h1 h v) (hn : h0.next ≤ h1.next) : Wr h0 h v := fun b hb => ⟨Nat.le_trans hn (w b hb).1, (w b hb).2⟩

/-- append(nil, ys...): memory of its own. -/
theorem Sl.copy {α : Type} {r : Rp α} {h : Heap} {x : AVal} {ys : List α} {n by_ : Nat} (o : Sl r h x ys) (hn : r.n = n) (hl : ys.length ≤ 2 ^ 33) (hby : by_ ≤ 2 ^ 12) :
    ∃ s' h', appR n by_ h .nils x = .val s' h' ∧ Gl r h h' s' ys ∧ Ext [] h h' ∧ Wr h h' s' := by
  obtain ⟨s', h', q1, q2, q3, q4, q5⟩ := (Gl.nil (r := r) (h0 := h) (h := h)).appN (by_ := by_) o hn (by simp; omega) hby (Nat.le_refl _)
  refine ⟨s', h', q1, by simpa using q2, q3, fun b hb => ?_⟩
  have hb2 : b = h.next := by simpa [AVal.blks] using q5 b hb
  subst hb2
  have hlt := (q2.1.blk _ hb).2
  have h0 := q3.n0
  refine ⟨?_, by rw [h0]; exact n0_le h, hlt⟩
  -- the row's class began here
  obtain ⟨dss, o1, o2⟩ := o.src
  rw [hn] at o1
  unfold appR at q1
  rw [o1] at q1
  simp only at q1
  split at q1
  · cases q1; simp [AVal.blks] at hb
  · split at q1
    · cases q1
      unfold Heap.root
      rw [Heap.cls_newG, if_pos rfl]
      exact Nat.le_refl _
    · cases q1

section
variable {β : Type} {Q : β → Heap → Prop} {h : Heap} {call : Nat → FuncId → List AVal → Heap → Res AVal} {k : Nat → AVal → Heap → Res β}

/-- A new variable. -/
theorem Tells.new {z : List AVal} (q : ∀ h1 b, Ob h1 b z → Ext [] h h1 → h.next ≤ b → Tells (fun m => k m (.ptr b 0) h1) Q) : Tells (fun m => arb (newR z h) (call m) (k m)) Q :=
  q _ _ (Ob.new h z) (Ext.new h true z) (Nat.le_refl _)
theorem Tells.newV {z : List AVal} (q : ∀ h1 b, Ob h1 b z → Ext [] h h1 → h.next ≤ b → Tells (fun m => k m (.ptr b 0) h1) Q) : Tells (fun m => arbV (newR z h) (k m)) Q :=
  q _ _ (Ob.new h z) (Ext.new h true z) (Nat.le_refl _)
theorem Tells.box {v : AVal} {cs : List AVal} (hk : v.known = true) (hc : v.cells = cs) (q : ∀ h1 b, Ob h1 b cs → Ext [] h h1 → h.next ≤ b → Tells (fun m => k m (.ptr b 0) h1) Q) : Tells (fun m => arb (boxR v h) (call m) (k m)) Q := by
  subst hc
  simp only [box_val _ _ hk]
  exact q _ _ (Ob.new h _) (Ext.new h true _) (Nat.le_refl _)
theorem Tells.boxV {v : AVal} {cs : List AVal} (hk : v.known = true) (hc : v.cells = cs) (q : ∀ h1 b, Ob h1 b cs → Ext [] h h1 → h.next ≤ b → Tells (fun m => k m (.ptr b 0) h1) Q) : Tells (fun m => arbV (boxR v h) (k m)) Q := by
  subst hc
  simp only [box_val _ _ hk]
  exact q _ _ (Ob.new h _) (Ext.new h true _) (Nat.le_refl _)

/-- A variable is another one, in part; all of it; one cell. -/
theorem Tells.st {b off n : Nat} {v : AVal} {cs : List AVal} (o : Ob h b cs) (h1 : v.cells.length = n) (h2 : v.cells.all AVal.one = true) (h3 : off + n ≤ cs.length) (q : ∀ h', Ob h' b (splice cs off v.cells) → Ext [b] h h' → Tells (fun m => k m aUndef h') Q) :
    Tells (fun m => arb (stR n h (.ptr b off) v) (call m) (k m)) Q := by
  obtain ⟨h', e, o', x⟩ := o.st h1 h2 h3
  simp only [e, arb_val]
  exact q h' o' x
theorem Tells.stE {b off n : Nat} {v : AVal} {cs : List AVal} (o : Ob h b cs) (h1 : v.cells.length = n) (h2 : v.cells.all AVal.one = true) (h3 : off + n ≤ cs.length) (q : ∀ h', Ob h' b (splice cs off v.cells) → Ext [b] h h' → Tells (fun m => k m aUndef h') Q) :
    Tells (fun m => arbE (stR n h (.ptr b off) v) (call m) (k m)) Q := by
  obtain ⟨h', e, o', x⟩ := o.st h1 h2 h3
  simp only [e, arbE_val]
  exact q h' o' x
theorem Tells.stN {b n : Nat} {v : AVal} {cs ds : List AVal} (o : Ob h b cs) (hd : v.cells = ds) (h1 : ds.length = n) (h2 : ds.all AVal.one = true) (h3 : cs.length = n) (q : ∀ h', Ob h' b ds → Ext [b] h h' → Tells (fun m => k m aUndef h') Q) :
    Tells (fun m => arb (stR n h (.ptr b 0) v) (call m) (k m)) Q := by
  subst hd
  obtain ⟨h', e, o', x⟩ := o.stN h1 h2 h3
  simp only [e, arb_val]
  exact q h' o' x
theorem Tells.stNE {b n : Nat} {v : AVal} {cs ds : List AVal} (o : Ob h b cs) (hd : v.cells = ds) (h1 : ds.length = n) (h2 : ds.all AVal.one = true) (h3 : cs.length = n) (q : ∀ h', Ob h' b ds → Ext [b] h h' → Tells (fun m => k m aUndef h') Q) :
    Tells (fun m => arbE (stR n h (.ptr b 0) v) (call m) (k m)) Q := by
  subst hd
  obtain ⟨h', e, o', x⟩ := o.stN h1 h2 h3
  simp only [e, arbE_val]
  exact q h' o' x
theorem Tells.st1 {b off : Nat} {v : AVal} {cs : List AVal} (o : Ob h b cs) (h1 : v.cells = [v]) (h2 : v.one = true) (h3 : off < cs.length) (q : ∀ h', Ob h' b (cs.set off v) → Ext [b] h h' → Tells (fun m => k m aUndef h') Q) :
    Tells (fun m => arb (stR 1 h (.ptr b off) v) (call m) (k m)) Q :=
  Tells.st o (by rw [h1]; rfl) (by rw [h1]; simp [h2]) (by omega) fun h' o' x => q h' (by rw [h1, splice_set h3] at o'; exact o') x
theorem Tells.st1E {b off : Nat} {v : AVal} {cs : List AVal} (o : Ob h b cs) (h1 : v.cells = [v]) (h2 : v.one = true) (h3 : off < cs.length) (q : ∀ h', Ob h' b (cs.set off v) → Ext [b] h h' → Tells (fun m => k m aUndef h') Q) :
    Tells (fun m => arbE (stR 1 h (.ptr b off) v) (call m) (k m)) Q :=
  Tells.stE o (by rw [h1]; rfl) (by rw [h1]; simp [h2]) (by omega) fun h' o' x => q h' (by rw [h1, splice_set h3] at o'; exact o') x

/-- A new variable that is filled at once. -/
theorem Tells.newSt {n : Nat} {z ds : List AVal} {v : AVal} (hd : v.cells = ds) (hz : z.length = n) (h1 : ds.length = n) (h2 : ds.all AVal.one = true) (q : ∀ h1 b, Ob h1 b ds → Ext [] h h1 → h.next ≤ b → Tells (fun m => k m (.ptr b 0) h1) Q) :
    Tells (fun m => arb (newR z h) (call m) fun d h1 => arb (stR n h1 d v) (call m) fun _ h2 => k m d h2) Q := by
  refine Tells.new fun h1' b o x l => ?_
  refine Tells.stN o hd h1 h2 hz fun h2 o2 x2 => ?_
  exact q h2 b o2 (x.then x2 (by simp; omega)) l

/-- append(s, x) -/
theorem Tells.app1 {α : Type} {r : Rp α} {h0 : Heap} {xs : List α} {s v : AVal} {c z : List AVal} {x : α} {n by_ : Nat} {k : Nat → AVal → AVal → Heap → Res β} (g : Gl r h0 h s xs) (hv : v.cells = c) (hk : v.known = true) (hx : r.rep h c x) (hn : r.n = n) (hz : z.length = n) (hl : xs.length < 2 ^ 33)
    (hby : by_ ≤ 2 ^ 12) (hle : h0.next ≤ h.next) (q : ∀ s' h', Gl r h0 h' s' (xs ++ [x]) → Ext s.blks h h' → (∀ S, Ext S h0 h → Ext S h0 h') → (∀ b, b ∈ s'.blks → b ∈ s.blks ∨ h.next ≤ b) → Tells (fun m => k m (.sl h.next 0 1 1 n true) s' h') Q) :
    Tells (fun m => arb (bslR n z 1 h [(0, n, v)]) (call m) fun a h2 => arb (appR n by_ h2 s a) (call m) (k m a)) Q := by
  subst hv
  have hc : v.cells.length = n := by rw [← hn]; exact r.len hx
  obtain ⟨s', h', q1, q2, q3, q4, q5⟩ := g.app1 (by_ := by_) hx hn hl hby hle
  simp only [bsl1 hz hk hc, arb_val, q1]
  exact q s' h' q2 q3 q4 q5
theorem Tells.app1E {α : Type} {r : Rp α} {h0 : Heap} {xs : List α} {s v : AVal} {c z : List AVal} {x : α} {n by_ : Nat} {k : Nat → AVal → AVal → Heap → Res β} (g : Gl r h0 h s xs) (hv : v.cells = c) (hk : v.known = true) (hx : r.rep h c x) (hn : r.n = n) (hz : z.length = n) (hl : xs.length < 2 ^ 33)
    (hby : by_ ≤ 2 ^ 12) (hle : h0.next ≤ h.next) (q : ∀ s' h', Gl r h0 h' s' (xs ++ [x]) → Ext s.blks h h' → (∀ S, Ext S h0 h → Ext S h0 h') → (∀ b, b ∈ s'.blks → b ∈ s.blks ∨ h.next ≤ b) → Tells (fun m => k m (.sl h.next 0 1 1 n true) s' h') Q) :
    Tells (fun m => arbV (bslR n z 1 h [(0, n, v)]) fun a h2 => arbE (appR n by_ h2 s a) (call m) (k m a)) Q := by
  subst hv
  have hc : v.cells.length = n := by rw [← hn]; exact r.len hx
  obtain ⟨s', h', q1, q2, q3, q4, q5⟩ := g.app1 (by_ := by_) hx hn hl hby hle
  simp only [bsl1 hz hk hc, arbV_val, q1, arbE_val]
  exact q s' h' q2 q3 q4 q5
/-- A slice that is written down. -/
theorem Tells.lit {α : Type} {r : Rp α} {xs : List α} {css : List (List AVal)} {n j : Nat} {z cells : List AVal} {parts : List (Nat × Nat × AVal)} (hn : r.n = n) (o : All2 (r.rep h) css xs) (hk : xs.length = j) (hc : css.flatten = cells)
    (e : bslR n z j h parts = .val (.sl h.next 0 j j n true) (h.new false cells)) (q : ∀ v h1, Gl r h h1 v xs → Ext [] h h1 → v.blks = [h.next] → Tells (fun m => k m v h1) Q) : Tells (fun m => arb (bslR n z j h parts) (call m) (k m)) Q := by
  simp only [e, arb_val]
  exact q _ _ (Sl.lit hn o hk hc).2 (Ext.new _ _ _) rfl
theorem Tells.litV {α : Type} {r : Rp α} {xs : List α} {css : List (List AVal)} {n j : Nat} {z cells : List AVal} {parts : List (Nat × Nat × AVal)} (hn : r.n = n) (o : All2 (r.rep h) css xs) (hk : xs.length = j) (hc : css.flatten = cells)
    (e : bslR n z j h parts = .val (.sl h.next 0 j j n true) (h.new false cells)) (q : ∀ v h1, Gl r h h1 v xs → Ext [] h h1 → v.blks = [h.next] → Tells (fun m => k m v h1) Q) : Tells (fun m => arbV (bslR n z j h parts) (k m)) Q := by
  simp only [e, arbV_val]
  exact q _ _ (Sl.lit hn o hk hc).2 (Ext.new _ _ _) rfl
theorem Tells.copy {α : Type} {r : Rp α} {ys : List α} {v : AVal} {n by_ : Nat} (o : Sl r h v ys) (hn : r.n = n) (hl : ys.length ≤ 2 ^ 33) (hby : by_ ≤ 2 ^ 12) (q : ∀ s' h', Gl r h h' s' ys → Ext [] h h' → Wr h h' s' → Tells (fun m => k m s' h') Q) :
    Tells (fun m => arb (appR n by_ h .nils v) (call m) (k m)) Q := by
  obtain ⟨s', h', q1, q2, q3, q4⟩ := o.copy (by_ := by_) hn hl hby
  simp only [q1, arb_val]
  exact q s' h' q2 q3 q4
theorem Tells.copyE {α : Type} {r : Rp α} {ys : List α} {v : AVal} {n by_ : Nat} (o : Sl r h v ys) (hn : r.n = n) (hl : ys.length ≤ 2 ^ 33) (hby : by_ ≤ 2 ^ 12) (q : ∀ s' h', Gl r h h' s' ys → Ext [] h h' → Wr h h' s' → Tells (fun m => k m s' h') Q) :
    Tells (fun m => arbE (appR n by_ h .nils v) (call m) (k m)) Q := by
  obtain ⟨s', h', q1, q2, q3, q4⟩ := o.copy (by_ := by_) hn hl hby
  simp only [q1, arbE_val]
  exact q s' h' q2 q3 q4

/-- A row of one's own is written: one cell. -/
theorem Tells.wr {α : Type} {r : Rp α} {xs : List α} {h0 : Heap} {v x : AVal} {S : List Nat} (e0 : Ext S h0 h) (o : Sl r h v xs) (w : Wr h0 h v) {b p off : Nat} {B : List AVal} (hb : b ∈ v.blks) (hB : h.get b = some B) (hx : x.cells = [x]) (h1 : x.one = true) (hp : p < B.length)
    (q : ∀ h', h'.get b = some (B.set p x) → Ext S h0 h' → h'.isM b = false → h'.next = h.next → h'.n0 = h.n0 → (∀ c, h'.cls c = h.cls c) → Tells (fun m => k m aUndef h') Q) : Tells (fun m => arb (stR 1 h (.ptr b p) x) (call m) (k m)) Q := by
  obtain ⟨w1, w2, w3⟩ := w b hb
  have hpg := Heap.get_putB h w2 (get_lt hB) (Heap.up_of_get w2 hB) (B.set p x) b
  have e : stR 1 h (.ptr b p) x = .val aUndef (h.putB b (B.set p x)) := by
    simp only [stR, Heap.put, hx]
    rw [if_pos ⟨rfl, by simp [h1]⟩, if_neg (by omega), hB]
    simp only [List.length_singleton]
    rw [if_pos (by omega), splice_set hp]
  simp only [e, arb_val]
  exact q _ (hpg.1 rfl) (e0.putD w2 hB w1) (by rw [Heap.isM_putB]; exact (o.blk b hb).1) (Heap.next_putB _ _ _) (Heap.n0_putB _ _ _) fun c => Heap.cls_putB _ _ _ c

/-- append(s, ys...) -/
theorem Tells.appN {α : Type} {r : Rp α} {h0 : Heap} {xs ys : List α} {s v : AVal} {n by_ : Nat} (g : Gl r h0 h s xs) (o : Sl r h v ys) (hn : r.n = n) (hl : xs.length + ys.length ≤ 2 ^ 34)
    (hby : by_ ≤ 2 ^ 12) (hle : h0.next ≤ h.next) (q : ∀ s' h', Gl r h0 h' s' (xs ++ ys) → Ext s.blks h h' → (∀ S, Ext S h0 h → Ext S h0 h') → (∀ b, b ∈ s'.blks → b ∈ s.blks ∨ h.next ≤ b) → Tells (fun m => k m s' h') Q) :
    Tells (fun m => arb (appR n by_ h s v) (call m) (k m)) Q := by
  obtain ⟨s', h', q1, q2, q3, q4, q5⟩ := g.appN (by_ := by_) o hn hl hby hle
  simp only [q1, arb_val]
  exact q s' h' q2 q3 q4 fun b hb => (q5 b hb).imp_right fun z => by omega
theorem Tells.appNE {α : Type} {r : Rp α} {h0 : Heap} {xs ys : List α} {s v : AVal} {n by_ : Nat} (g : Gl r h0 h s xs) (o : Sl r h v ys) (hn : r.n = n) (hl : xs.length + ys.length ≤ 2 ^ 34)
    (hby : by_ ≤ 2 ^ 12) (hle : h0.next ≤ h.next) (q : ∀ s' h', Gl r h0 h' s' (xs ++ ys) → Ext s.blks h h' → (∀ S, Ext S h0 h → Ext S h0 h') → (∀ b, b ∈ s'.blks → b ∈ s.blks ∨ h.next ≤ b) → Tells (fun m => k m s' h') Q) :
    Tells (fun m => arbE (appR n by_ h s v) (call m) (k m)) Q := by
  obtain ⟨s', h', q1, q2, q3, q4, q5⟩ := g.appN (by_ := by_) o hn hl hby hle
  simp only [q1, arbE_val]
  exact q s' h' q2 q3 q4 fun b hb => (q5 b hb).imp_right fun z => by omega

end
end Go.Ab
