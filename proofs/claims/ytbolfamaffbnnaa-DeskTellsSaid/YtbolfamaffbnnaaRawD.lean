/-
  Reckoning in the S-forms: one cell of an element of a row whose elements hold rows; elements that are told apart.
-/
import Derived.Test.YtbolfamaffbnnaaRawC
import Derived.Test.YtbolfamaffbnnaaCell0
set_option linter.unusedVariables false
set_option linter.unusedSimpArgs false
namespace Go.Ab

theorem rawcells_eq {n : Nat} {hn : 0 < n} {h : Heap} : ∀ {css ds : List (List AVal)}, All2 ((cellR n hn).rep h) css ds → css = ds
  | [], [], _ => rfl
  | c :: css, d :: ds, a => by rw [show c = d from a.1.1, rawcells_eq a.2]
  | [], _ :: _, a => a.elim
  | _ :: _, [], a => a.elim
theorem cells_of {n : Nat} (hn : 0 < n) {h : Heap} : ∀ {css : List (List AVal)}, (∀ c, c ∈ css → c.length = n ∧ c.all AVal.one = true) → All2 ((cellR n hn).rep h) css css
  | [], _ => trivial
  | c :: css, k => ⟨⟨rfl, k c (by simp)⟩, cells_of hn fun d hd => k d (by simp [hd])⟩
theorem reps_each {α : Type} {r : Rp α} {h : Heap} : ∀ {css : List (List AVal)} {xs : List α}, All2 (r.rep h) css xs → ∀ c, c ∈ css → c.length = r.n ∧ c.all AVal.one = true
  | [], [], _ => by simp
  | c :: css, x :: xs, k => fun d hd => by
    rcases List.mem_cons.1 hd with q | q
    · rw [q]; exact ⟨r.len k.1, r.one k.1⟩
    · exact reps_each k.2 d q
  | [], _ :: _, k => k.elim
  | _ :: _, [], k => k.elim

section
variable {α : Type} {F : Fam α} {K : Nat} {h0 h : Heap} {v : AVal} {xs : List α}
/-- A cell of an element. -/
theorem RowZ.set1 {n : Nat} (o : RowZ F K h0 h v xs) (hn : F.n = n) {i : Nat} {y : α} (hy : xs[i]? = some y) :
    ∃ b p B c, v.blks = [b] ∧ h.isM b = false ∧ b < h.next ∧ h0.next ≤ h.root b ∧ h.n0 ≤ b ∧ ixsR n v (.int .i64 (i : Int)) = some (.ptr b p) ∧ Elem h b p B c ∧ (F.r fun q => ¬ h.isRoot v q ∧ K ≤ q).rep h c y ∧
      ∀ (k : Nat) (x : AVal) (y' : α), k < n → x.cells = [x] → x.one = true → (F.r fun q => ¬ h.isRoot v q ∧ K ≤ q).rep h (c.set k x) y' → ∃ h', stR 1 h (.ptr b (p + k)) x = .val aUndef h' ∧ ExtC b h h' ∧ RowZ F K h0 h' v (xs.set i y') := by
  obtain ⟨w, ⟨css, s, a⟩, g⟩ := o
  subst hn
  have hpos : 0 < F.n := by rw [← F.hn fun _ => True]; exact Rp.pos _
  rw [F.hn] at s g
  have ec := reps_each a
  rw [F.hn] at ec
  have oc : Sl (cellR F.n hpos) h v css := ⟨css, s, cells_of hpos ec⟩
  obtain ⟨c, hc, hr⟩ := a.at hy
  obtain ⟨b, p, B, c2, k1, k2, k3, k4, k5, k6, k7⟩ := pokeC (r := cellR F.n hpos) rfl (fun q => q) oc (fun b hb => (w b hb).2.1) hc
  have e2 : c2 = c := k6.1
  subst e2
  obtain ⟨w1, w2, w3⟩ := w b (by rw [k1]; simp)
  refine ⟨b, p, B, c2, k1, k2, k3, w1, w2, k4, k5, hr, fun k x y' hk hx h1 hy' => ?_⟩
  obtain ⟨h', s1, s2, ⟨css', s3, s4⟩, s5⟩ := k7 k x (c2.set k x) hk hx h1 ⟨rfl, by rw [List.length_set]; exact k6.2.1, by have := (F.r _).one hy'; exact this⟩
  have e3 := rawcells_eq s4
  subst e3
  have nz : ∀ q, q = h.root b → ¬ (¬ h.isRoot v q ∧ K ≤ q) := fun q e z => z.1 ⟨b, by rw [k1]; simp, e⟩
  have zz : ∀ q, (¬ h.isRoot v q ∧ K ≤ q) → (¬ h'.isRoot v q ∧ K ≤ q) := fun q z => ⟨by
    rintro ⟨d, hd, rfl⟩
    exact z.1 ⟨d, hd, by unfold Heap.root; rw [s2.cls]⟩, z.2⟩
  have sets : ∀ {l : List (List AVal)} {m : List α} {i : Nat} {d : List AVal} {z : α}, All2 ((F.r fun q => ¬ h.isRoot v q ∧ K ≤ q).rep h) l m → (F.r fun q => ¬ h.isRoot v q ∧ K ≤ q).rep h d z → All2 ((F.r fun q => ¬ h.isRoot v q ∧ K ≤ q).rep h) (l.set i d) (m.set i z) := fun a k => a.set k
  refine ⟨h', s1, s2, fun d hd => ?_, ⟨_, by rw [F.hn]; exact s3, (sets a hy').imp fun cs x r => F.mono (fun q _ z => zz q z) (F.extC (nz _ rfl) s2 r)⟩, by rw [F.hn]; exact s5 h0 g⟩
  obtain ⟨z1, z2, z3⟩ := w d hd
  exact ⟨by unfold Heap.root; rw [s2.cls]; exact z1, by rw [s2.n0]; exact z2, by rw [s2.next]; exact z3⟩
/-- An element that is written. -/
theorem RowZ.putE {n : Nat} (o : RowZ F K h0 h v xs) (hn : F.n = n) {i : Nat} (hi : i < xs.length) {c : List AVal} {x : α} (hx : (F.r fun q => ¬ h.isRoot v q ∧ K ≤ q).rep h c x) :
    ∃ b p, v.blks = [b] ∧ h.isM b = false ∧ b < h.next ∧ h0.next ≤ h.root b ∧ h.n0 ≤ b ∧ ixsR n v (.int .i64 (i : Int)) = some (.ptr b p) ∧ ∃ h', (∀ w : AVal, w.cells = c → stR n h (.ptr b p) w = .val aUndef h') ∧ ExtC b h h' ∧ RowZ F K h0 h' v (xs.set i x) := by
  have hd : All2 ((F.r fun q => ¬ h.isRoot v q ∧ K ≤ q).rep h) [c] [x] := ⟨hx, trivial⟩
  have ln := o.2.1.len
  obtain ⟨b, off, len, cap, sz, ex, rfl, k1, k2, k3, k4, h', k5, k6, k7⟩ := o.put (i := i) hd (by simp; omega) (by omega)
  have hs : (.sl b off len cap sz ex : AVal) = .nils ∨ (ex = true ∨ sz = F.n) := by
    obtain ⟨css, s, a⟩ := o.2.1
    rw [F.hn] at s
    rcases s with ⟨e, _⟩ | ⟨b', off', cap', sz', ex', B, e, h2, _⟩
    · exact .inl e
    · cases e; exact .inr h2
  rcases hs with hs | hs
  · cases hs
  subst hn
  simp at ln
  have cl : c.length = F.n := by rw [Rp.len _ hx, F.hn]
  refine ⟨b, off + i * F.n, rfl, k1, k4, k2, k3, ?_, h', fun w hw => ?_, k6, ?_⟩
  · simp only [ixsR]
    rw [if_pos ⟨by omega, by omega⟩]
    simp
  · simp only [stR, hw]
    rw [if_pos ⟨cl, Rp.one _ hx⟩]
    simp at k5
    rw [k5]
  · have e : xs.set i x = xs.take i ++ [x] ++ xs.drop (i + [x].length) := by rw [List.set_eq_take_append_cons_drop, if_pos hi]; simp
    rw [e]
    exact k7
/-- An element that is read. -/
theorem RowZ.at {n : Nat} (o : RowZ F K h0 h v xs) (hn : F.n = n) {i : Nat} {y : α} (hy : xs[i]? = some y) : ∃ b p B c, ixsR n v (.int .i64 (i : Int)) = some (.ptr b p) ∧ Elem h b p B c ∧ (F.r fun q => ¬ h.isRoot v q ∧ K ≤ q).rep h c y := by
  obtain ⟨b, p, B, c, q1, q2, q3⟩ := o.2.1.at (n := n) (by rw [F.hn, hn]) (i := (i : Int)) (by omega) (by simpa using hy)
  exact ⟨b, p, B, c, q1, q2, q3⟩
theorem RowZ.len (o : RowZ F K h0 h v xs) : lenL v = some (I xs.length) := o.2.1.len
end

/-- Elements, some of which hold rows that are not older than K. -/
def flagF {α : Type} (F : Fam α) (K : Nat) : Fam (α × Bool) where
  r := fun Z => ⟨F.n, by rw [← F.hn fun _ => True]; exact Rp.pos _, fun h cs x => (F.r fun q => Z q ∧ (x.2 = true → K ≤ q)).rep h cs x.1, fun h => by rw [Rp.len _ h, F.hn], fun h => Rp.one _ h, fun h x => Rp.ext _ h x⟩
  n := F.n
  hn := fun _ => rfl
  mono := fun hz r => F.mono (fun q hq z => ⟨hz q hq z.1, z.2⟩) r
  extC := fun nz x r => F.extC (fun z => nz z.1) x r
theorem All2.unmap {α β γ : Type} {R : α → β → Prop} {R' : α → γ → Prop} {f : β → γ} (k : ∀ a b, R' a (f b) → R a b) : ∀ {l : List α} {m : List β}, All2 R' l (m.map f) → All2 R l m
  | [], [], _ => trivial
  | a :: l, b :: m, h => ⟨k _ _ h.1, All2.unmap k h.2⟩
  | [], _ :: _, h => h.elim
  | _ :: _, [], h => h.elim
theorem All2.remap {α β γ : Type} {R : α → β → Prop} {R' : α → γ → Prop} {f : β → γ} (k : ∀ a b, R a b → R' a (f b)) : ∀ {l : List α} {m : List β}, All2 R l m → All2 R' l (m.map f)
  | [], [], _ => trivial
  | a :: l, b :: m, h => ⟨k _ _ h.1, All2.remap k h.2⟩
  | [], _ :: _, h => h.elim
  | _ :: _, [], h => h.elim
section
variable {α : Type} {F : Fam α} {K : Nat} {h0 h : Heap} {v : AVal} {xs : List α}
theorem RowZ.flag (o : RowZ F 0 h0 h v xs) : RowZ (flagF F K) 0 h0 h v (xs.map fun x => (x, false)) := by
  obtain ⟨w, ⟨css, s, a⟩, g⟩ := o
  rw [F.hn] at s g
  exact ⟨w, ⟨css, s, a.remap (R' := ((flagF F K).r _).rep h) fun cs x r => F.mono (fun q _ z => ⟨z, fun e => by cases e⟩) r⟩, g⟩
theorem RowZ.unflag (o : RowZ (flagF F K) 0 h0 h v (xs.map fun x => (x, true))) : RowZ F K h0 h v xs := by
  obtain ⟨w, ⟨css, s, a⟩, g⟩ := o
  have s : SlC h F.n v css := s
  have g : Gro h0 h F.n v := g
  refine ⟨w, ⟨css, by rw [F.hn]; exact s, a.unmap (R' := ((flagF F K).r _).rep h) (R := (F.r _).rep h) fun cs x r => ?_⟩, by rw [F.hn]; exact g⟩
  exact F.mono (Z := fun q => (¬ h.isRoot v q ∧ 0 ≤ q) ∧ (true = true → K ≤ q)) (fun q _ z => ⟨z.1.1, z.2 rfl⟩) r
end
section
variable {β : Type} {Q : β → Heap → Prop} {h : Heap} {call : Nat → FuncId → List AVal → Heap → Res AVal}
theorem Tells.appNZ {α : Type} {F : Fam α} {K : Nat} {h0 : Heap} {xs ys : List α} {s v : AVal} {n by_ : Nat} {k : Nat → AVal → Heap → Res β} (g : RowZ F K h0 h s xs) (o : Sl (F.r fun q => ¬ h.isRoot s q ∧ K ≤ q) h v ys) (hn : F.n = n) (hl : xs.length + ys.length ≤ 2 ^ 34)
    (hby : by_ ≤ 2 ^ 12) (hle : h0.next ≤ h.next) (q : ∀ s' h', RowZ F K h0 h' s' (xs ++ ys) → Ext s.blks h h' → (∀ S, Ext S h0 h → Ext S h0 h') → (∀ q, q < h.next → ¬ h.isRoot s q → ¬ h'.isRoot s' q) → Tells (fun m => k m s' h') Q) :
    Tells (fun m => arb (appR n by_ h s v) (call m) (k m)) Q := by
  obtain ⟨w, g⟩ := g
  have g1 := g.fam F (Z' := fun q => (¬ h.isRoot s q ∧ K ≤ q) ∧ q < h.next) fun q hq hz => ⟨hz, hq⟩
  have o1 := o.fam F (Z' := fun q => (¬ h.isRoot s q ∧ K ≤ q) ∧ q < h.next) fun q hq hz => ⟨hz, hq⟩
  obtain ⟨s', h', e, g', x', y', _⟩ := g1.appN (by_ := by_) o1 (by rw [F.hn, hn]) hl hby hle
  simp only [e, arb_val]
  have nr : ∀ q, q < h.next → ¬ h.isRoot s q → ¬ h'.isRoot s' q := fun q hq z1 => by
    rintro ⟨b, hb, rfl⟩
    rcases appR_root e b hb with ⟨d', k1, k2⟩ | k
    · exact z1 ⟨d', k1, k2⟩
    · omega
  exact q s' h' ⟨appR_wr e w hle, g'.fam F fun q hq ⟨⟨z1, z2⟩, z3⟩ => ⟨nr q z3 z1, z2⟩⟩ x' y' nr
theorem Tells.appNZE {α : Type} {F : Fam α} {K : Nat} {h0 : Heap} {xs ys : List α} {s v : AVal} {n by_ : Nat} {k : Nat → AVal → Heap → Res β} (g : RowZ F K h0 h s xs) (o : Sl (F.r fun q => ¬ h.isRoot s q ∧ K ≤ q) h v ys) (hn : F.n = n) (hl : xs.length + ys.length ≤ 2 ^ 34)
    (hby : by_ ≤ 2 ^ 12) (hle : h0.next ≤ h.next) (q : ∀ s' h', RowZ F K h0 h' s' (xs ++ ys) → Ext s.blks h h' → (∀ S, Ext S h0 h → Ext S h0 h') → (∀ q, q < h.next → ¬ h.isRoot s q → ¬ h'.isRoot s' q) → Tells (fun m => k m s' h') Q) :
    Tells (fun m => arbE (appR n by_ h s v) (call m) (k m)) Q := by
  obtain ⟨w, g⟩ := g
  have g1 := g.fam F (Z' := fun q => (¬ h.isRoot s q ∧ K ≤ q) ∧ q < h.next) fun q hq hz => ⟨hz, hq⟩
  have o1 := o.fam F (Z' := fun q => (¬ h.isRoot s q ∧ K ≤ q) ∧ q < h.next) fun q hq hz => ⟨hz, hq⟩
  obtain ⟨s', h', e, g', x', y', _⟩ := g1.appN (by_ := by_) o1 (by rw [F.hn, hn]) hl hby hle
  simp only [e, arbE_val]
  have nr : ∀ q, q < h.next → ¬ h.isRoot s q → ¬ h'.isRoot s' q := fun q hq z1 => by
    rintro ⟨b, hb, rfl⟩
    rcases appR_root e b hb with ⟨d', k1, k2⟩ | k
    · exact z1 ⟨d', k1, k2⟩
    · omega
  exact q s' h' ⟨appR_wr e w hle, g'.fam F fun q hq ⟨⟨z1, z2⟩, z3⟩ => ⟨nr q z3 z1, z2⟩⟩ x' y' nr
theorem Tells.appZE {α : Type} {F : Fam α} {K : Nat} {h0 : Heap} {xs : List α} {s v : AVal} {c z : List AVal} {x : α} {n by_ : Nat} {k : Nat → AVal → AVal → Heap → Res β} (g : RowZ F K h0 h s xs) (hv : v.cells = c) (hk : v.known = true) (hx : (F.r fun q => ¬ h.isRoot s q ∧ K ≤ q).rep h c x) (hn : F.n = n) (hz : z.length = n) (hl : xs.length < 2 ^ 33)
    (hby : by_ ≤ 2 ^ 12) (hle : h0.next ≤ h.next) (q : ∀ s' h', RowZ F K h0 h' s' (xs ++ [x]) → Ext s.blks h h' → (∀ S, Ext S h0 h → Ext S h0 h') → (∀ q, q < h.next → ¬ h.isRoot s q → ¬ h'.isRoot s' q) → Tells (fun m => k m (.sl h.next 0 1 1 n true) s' h') Q) :
    Tells (fun m => arbV (bslR n z 1 h [(0, n, v)]) fun a h2 => arbE (appR n by_ h2 s a) (call m) (k m a)) Q := by
  obtain ⟨w, g⟩ := g
  subst hv
  have g1 := g.fam F (Z' := fun q => (¬ h.isRoot s q ∧ K ≤ q) ∧ q < h.next) fun q hq hz => ⟨hz, hq⟩
  have hx1 := F.mono (Z' := fun q => (¬ h.isRoot s q ∧ K ≤ q) ∧ q < h.next) (fun q hq hz => ⟨hz, hq⟩) hx
  have hc : v.cells.length = n := by rw [Rp.len _ hx, F.hn, hn]
  obtain ⟨s', h', e, g', x', y', _⟩ := g1.app1 (by_ := by_) hx1 (by rw [F.hn, hn]) hl hby hle
  have e1 := Ext.new h false v.cells
  simp only [bsl1 hz hk hc, arbV_val, e, arbE_val]
  have nr : ∀ q, q < h.next → ¬ h.isRoot s q → ¬ h'.isRoot s' q := fun q hq z1 => by
    rintro ⟨b, hb, rfl⟩
    rcases appR_root e b hb with ⟨d', k1, k2⟩ | k
    · refine z1 ⟨d', k1, ?_⟩
      rw [k2, root_ext e1 (w d' k1).2.2]
    · have := e1.next
      omega
  exact q s' h' ⟨appR_wr e (w.ext e1) (Nat.le_trans hle e1.next), g'.fam F fun q hq ⟨⟨z1, z2⟩, z3⟩ => ⟨nr q z3 z1, z2⟩⟩ x' y' nr
end
end Go.Ab
