/-
  Reckoning in the S-forms: whole elements of a row written in place; rows whose elements hold rows.
-/
import Derived.Test.YtbolfamaffbnnaaCls
import Derived.Test.YtbolfamaffbnnaaRts
set_option linter.unusedVariables false
set_option linter.unusedSimpArgs false
namespace Go.Ab

theorem flat_take {n : Nat} : ∀ {css : List (List AVal)}, (∀ c, c ∈ css → c.length = n) → ∀ i, (css.take i).flatten = css.flatten.take (i * n)
  | [], _, i => by simp
  | c :: r, h, 0 => by simp
  | c :: r, h, i + 1 => by
    have h1 := h c (by simp)
    have ih := flat_take (css := r) (fun d hd => h d (by simp [hd])) i
    rw [List.take_succ_cons, List.flatten_cons, List.flatten_cons, ih, List.take_append, h1]
    have e1 : (i + 1) * n - n = i * n := by rw [Nat.add_mul]; omega
    rw [e1, List.take_of_length_le (l := c) (by rw [h1, Nat.add_mul]; omega)]
theorem flat_drop {n : Nat} : ∀ {css : List (List AVal)}, (∀ c, c ∈ css → c.length = n) → ∀ i, (css.drop i).flatten = css.flatten.drop (i * n)
  | [], _, i => by simp
  | c :: r, h, 0 => by simp
  | c :: r, h, i + 1 => by
    have h1 := h c (by simp)
    have ih := flat_drop (css := r) (fun d hd => h d (by simp [hd])) i
    rw [List.drop_succ_cons, List.flatten_cons, ih, List.drop_append, h1]
    have e1 : (i + 1) * n - n = i * n := by rw [Nat.add_mul]; omega
    rw [e1, List.drop_eq_nil_of_le (as := c) (by rw [h1, Nat.add_mul]; omega)]
    rfl

/-- Elements of a row of one's own are written. -/
theorem SlC.put {h : Heap} {n : Nat} {v : AVal} {css : List (List AVal)} (o : SlC h n v css) (w : ∀ b, b ∈ v.blks → h.n0 ≤ b) {i : Nat} {dss : List (List AVal)} (hi : i + dss.length ≤ css.length) (hd : ∀ d, d ∈ dss → d.length = n) {b off len cap sz : Nat} {ex : Bool} (hv : v = .sl b off len cap sz ex) :
    ∃ h', h.put b (off + i * n) dss.flatten = some h' ∧ ExtC b h h' ∧ h.isM b = false ∧ SlC h' n v (css.take i ++ dss ++ css.drop (i + dss.length)) ∧ ∀ h0, Gro h0 h n v → Gro h0 h' n v := by
  rcases o with ⟨rfl, rfl⟩ | ⟨b', off', cap', sz', ex', B, e, h2, h3, h4, h5, h6, h7, h8⟩
  · cases hv
  · rw [e] at hv
    cases hv
    subst e
    have w2 := w b (by simp [AVal.blks])
    have fl := flat_len hd
    have cl := flat_len h8
    have hle : (i + dss.length) * n ≤ css.length * n := Nat.mul_le_mul_right _ hi
    rw [Nat.add_mul] at hle
    have hp : off + i * n + dss.flatten.length ≤ B.length := by omega
    have hlen : (css.take i ++ dss ++ css.drop (i + dss.length)).length = css.length := by simp; omega
    have hg := Heap.get_putB h w2 (get_lt h4) (Heap.up_of_get w2 h4) (splice B (off + i * n) dss.flatten)
    have sl : (splice B (off + i * n) dss.flatten).length = B.length := by unfold splice; simp only [List.length_append, List.length_take, List.length_drop]; omega
    refine ⟨h.putB b (splice B (off + i * n) dss.flatten), ?_, ExtC.putB w2 h4 _, h5, .inr ⟨b, off, cap, sz, ex, splice B (off + i * n) dss.flatten, by rw [hlen], h2, by rw [hlen]; exact h3, (hg b).1 rfl, by rw [Heap.isM_putB]; exact h5, by rw [hlen, sl]; exact h6, ?_, fun d hd' => ?_⟩, fun h0 g => g.putB w2 h4 sl⟩
    · unfold Heap.put
      rw [if_neg (by omega), h4]
      simp only
      rw [if_pos hp]
    · have eB : B = B.take off ++ (css.flatten ++ B.drop (off + css.length * n)) := by
        rw [← h7]
        have : B.drop (off + css.length * n) = (B.drop off).drop (css.length * n) := by rw [List.drop_drop]
        rw [this, List.take_append_drop, List.take_append_drop]
      have eM : css.flatten = css.flatten.take (i * n) ++ (css.flatten.drop (i * n)) := (List.take_append_drop _ _).symm
      have s1 : splice B (off + i * n) dss.flatten = B.take off ++ ((css.take i).flatten ++ (dss.flatten ++ (B.drop (off + (i + dss.length) * n)))) := by
        unfold splice
        rw [fl, flat_take h8]
        have t1 : B.take (off + i * n) = B.take off ++ css.flatten.take (i * n) := by
          rw [List.take_add, ← h7, List.take_take, Nat.min_eq_left (by omega)]
        rw [t1, Nat.add_mul, ← Nat.add_assoc]
        simp
      have l1 : (B.take off).length = off := by simp; omega
      rw [s1, List.drop_append, l1, Nat.sub_self, List.drop_zero, List.drop_eq_nil_of_le (as := B.take off) (by omega), List.nil_append, hlen, List.flatten_append, List.flatten_append, flat_drop h8]
      have r1 : (B.drop (off + (i + dss.length) * n)).take (css.length * n - (i + dss.length) * n) = css.flatten.drop ((i + dss.length) * n) := by
        rw [← h7, List.drop_take, List.drop_drop]
      have l2 : (css.take i).flatten.length = i * n := by rw [flat_take h8, List.length_take]; omega
      rw [← List.append_assoc, List.take_append, List.take_of_length_le (by simp only [List.length_append, l2, fl]; omega)]
      congr 1
      rw [← r1]
      congr 1
      simp only [List.length_append, l2, fl]
      rw [Nat.add_mul]
    · rcases List.mem_append.1 hd' with q | q
      · rcases List.mem_append.1 q with q | q
        · exact h8 d (List.mem_of_mem_take q)
        · exact hd d q
      · exact h8 d (List.mem_of_mem_drop q)

/-- What cells stand for that hold rows whose classes began where Z says. -/
structure Fam (α : Type) where
  r : (Nat → Prop) → Rp α
  n : Nat
  hn : ∀ Z, (r Z).n = n
  mono : ∀ {Z Z' : Nat → Prop} {h cs x}, (∀ q, q < h.next → Z q → Z' q) → (r Z).rep h cs x → (r Z').rep h cs x
  extC : ∀ {Z : Nat → Prop} {b h h' cs x}, ¬ Z (h.root b) → ExtC b h h' → (r Z).rep h cs x → (r Z).rep h' cs x

theorem All2.imp2 {α β : Type} {R R' : α → β → Prop} (f : ∀ a b, R a b → R' a b) {l : List α} {m : List β} (a : All2 R l m) : All2 R' l m := a.imp f
theorem Sl.imp {α : Type} {r r' : Rp α} {h : Heap} {v : AVal} {xs : List α} (o : Sl r h v xs) (hn : r'.n = r.n) (f : ∀ cs x, r.rep h cs x → r'.rep h cs x) : Sl r' h v xs := by
  obtain ⟨css, h1, h2⟩ := o
  exact ⟨css, by rw [hn]; exact h1, h2.imp fun _ _ k => f _ _ k⟩
theorem Gl.imp {α : Type} {r r' : Rp α} {h0 h : Heap} {v : AVal} {xs : List α} (o : Gl r h0 h v xs) (hn : r'.n = r.n) (f : ∀ cs x, r.rep h cs x → r'.rep h cs x) : Gl r' h0 h v xs := ⟨o.1.imp hn f, by rw [hn]; exact o.2⟩

/-- Where a row's class began. -/
def Heap.isRoot (h : Heap) (v : AVal) (q : Nat) : Prop := ∃ b, b ∈ v.blks ∧ q = h.root b

section
variable {α : Type} (F : Fam α)
theorem Sl.fam {h : Heap} {v : AVal} {xs : List α} {Z Z' : Nat → Prop} (o : Sl (F.r Z) h v xs) (hz : ∀ q, q < h.next → Z q → Z' q) : Sl (F.r Z') h v xs := o.imp (by rw [F.hn, F.hn]) fun _ _ k => F.mono hz k
theorem Gl.fam {h0 h : Heap} {v : AVal} {xs : List α} {Z Z' : Nat → Prop} (o : Gl (F.r Z) h0 h v xs) (hz : ∀ q, q < h.next → Z q → Z' q) : Gl (F.r Z') h0 h v xs := o.imp (by rw [F.hn, F.hn]) fun _ _ k => F.mono hz k
theorem Sl.famC {b : Nat} {h h' : Heap} {v : AVal} {xs : List α} {Z : Nat → Prop} (o : Sl (F.r Z) h v xs) (x : ExtC b h h') (hz : ¬ Z (h.root b)) (a : Apart h b v) : Sl (F.r Z) h' v xs := by
  obtain ⟨css, h1, h2⟩ := o
  exact ⟨css, h1.extC x a, h2.imp fun _ _ k => F.extC hz x k⟩

/-- A row of one's own, whose elements' rows are not of its class, and not older than K. -/
def RowZ (K : Nat) (h0 h : Heap) (v : AVal) (xs : List α) : Prop := Wr h0 h v ∧ Gl (F.r fun q => ¬ h.isRoot v q ∧ K ≤ q) h0 h v xs

variable {K : Nat} {h0 h : Heap} {v : AVal} {xs : List α}
variable {F}
theorem RowZ.nil : RowZ F K h0 h .nils [] := ⟨fun b hb => by simp [AVal.blks] at hb, Gl.nil⟩
theorem RowZ.ext {S : List Nat} {h' : Heap} (o : RowZ F K h0 h v xs) (x : Ext S h h') (hs : ∀ b, b ∈ v.blks → b ∉ S) : RowZ F K h0 h' v xs := by
  obtain ⟨w, g⟩ := o
  refine ⟨w.ext x, (g.fam F (Z' := fun q => ¬ h'.isRoot v q ∧ K ≤ q) fun q hq hz => ⟨?_, hz.2⟩).ext x hs⟩
  rintro ⟨b, hb, rfl⟩
  refine hz.1 ⟨b, hb, ?_⟩
  rw [root_ext x (w b hb).2.2]
theorem RowZ.e {h' : Heap} (o : RowZ F K h0 h v xs) (x : Ext [] h h') : RowZ F K h0 h' v xs := o.ext x (by simp)
theorem RowZ.extO {S : List Nat} {h' : Heap} (o : RowZ F K h0 h v xs) (x : Ext S h h') (hs : ∀ b, b ∈ S → h.isM b = true ∨ h.next ≤ b) : RowZ F K h0 h' v xs := o.ext x fun b hb q => by
  have := o.2.1.blk b hb
  rcases hs b q with k | k
  · rw [this.1] at k; cases k
  · omega
theorem RowZ.sl (o : RowZ F K h0 h v xs) : Sl (F.r fun _ => True) h v xs := o.2.1.fam F fun _ _ _ => trivial
theorem RowZ.gl (o : RowZ F K h0 h v xs) : Gl (F.r fun _ => True) h0 h v xs := o.2.fam F fun _ _ _ => trivial
theorem RowZ.back {h1 : Heap} (o : RowZ F K h1 h v xs) (hn : h0.next ≤ h1.next) : RowZ F K h0 h v xs := ⟨o.1.back hn, o.2.back hn⟩
theorem RowZ.low {K' : Nat} (o : RowZ F K h0 h v xs) (hk : K' ≤ K) : RowZ F K' h0 h v xs := ⟨o.1, o.2.fam F fun q _ hz => ⟨hz.1, by omega⟩⟩
end

section
variable {β : Type} {Q : β → Heap → Prop} {h : Heap} {call : Nat → FuncId → List AVal → Heap → Res AVal}
theorem Tells.appZR {α : Type} {F : Fam α} {K : Nat} {h0 : Heap} {xs : List α} {s v : AVal} {c z : List AVal} {x : α} {n by_ : Nat} {k : Nat → AVal → AVal → Heap → Res β} (g : RowZ F K h0 h s xs) (hv : v.cells = c) (hk : v.known = true) (hx : (F.r fun q => ¬ h.isRoot s q ∧ K ≤ q).rep h c x) (hn : F.n = n) (hz : z.length = n) (hl : xs.length < 2 ^ 33)
    (hby : by_ ≤ 2 ^ 12) (hle : h0.next ≤ h.next) (q : ∀ s' h', RowZ F K h0 h' s' (xs ++ [x]) → Ext s.blks h h' → (∀ S, Ext S h0 h → Ext S h0 h') → (∀ q, q < h.next → ¬ h.isRoot s q → ¬ h'.isRoot s' q) → Tells (fun m => k m (.sl h.next 0 1 1 n true) s' h') Q) :
    Tells (fun m => arb (bslR n z 1 h [(0, n, v)]) (call m) fun a h2 => arb (appR n by_ h2 s a) (call m) (k m a)) Q := by
  obtain ⟨w, g⟩ := g
  have g1 := g.fam F (Z' := fun q => (¬ h.isRoot s q ∧ K ≤ q) ∧ q < h.next) fun q hq hz => ⟨hz, hq⟩
  have hx1 := F.mono (Z' := fun q => (¬ h.isRoot s q ∧ K ≤ q) ∧ q < h.next) (fun q hq hz => ⟨hz, hq⟩) hx
  refine Tells.app1R g1 w hv hk hx1 (by rw [F.hn, hn]) hz hl hby hle fun s' h' g' w' x' y' r' => ?_
  have nr : ∀ q, q < h.next → ¬ h.isRoot s q → ¬ h'.isRoot s' q := fun q hq z1 => by
    rintro ⟨b, hb, rfl⟩
    rcases r' b hb with ⟨d', k1, k2⟩ | k
    · exact z1 ⟨d', k1, k2⟩
    · omega
  exact q s' h' ⟨w', g'.fam F fun q hq ⟨⟨z1, z2⟩, z3⟩ => ⟨nr q z3 z1, z2⟩⟩ x' y' nr
theorem Tells.appZ {α : Type} {F : Fam α} {K : Nat} {h0 : Heap} {xs : List α} {s v : AVal} {c z : List AVal} {x : α} {n by_ : Nat} {k : Nat → AVal → AVal → Heap → Res β} (g : RowZ F K h0 h s xs) (hv : v.cells = c) (hk : v.known = true) (hx : (F.r fun q => ¬ h.isRoot s q ∧ K ≤ q).rep h c x) (hn : F.n = n) (hz : z.length = n) (hl : xs.length < 2 ^ 33)
    (hby : by_ ≤ 2 ^ 12) (hle : h0.next ≤ h.next) (q : ∀ s' h', RowZ F K h0 h' s' (xs ++ [x]) → Ext s.blks h h' → (∀ S, Ext S h0 h → Ext S h0 h') → Tells (fun m => k m (.sl h.next 0 1 1 n true) s' h') Q) :
    Tells (fun m => arb (bslR n z 1 h [(0, n, v)]) (call m) fun a h2 => arb (appR n by_ h2 s a) (call m) (k m a)) Q := by
  exact Tells.appZR g hv hk hx hn hz hl hby hle fun s' h' a1 a2 a3 _ => q s' h' a1 a2 a3

/-- append(nil, row...): the same cells, in a row of one's own. -/
theorem Tells.copyZ {α : Type} {F : Fam α} {Z : Nat → Prop} {K : Nat} {ys : List α} {v : AVal} {n by_ : Nat} {k : Nat → AVal → Heap → Res β} (o : Sl (F.r Z) h v ys) (hz : ∀ q, q < h.next → Z q → K ≤ q) (hn : F.n = n) (hl : ys.length ≤ 2 ^ 33) (hby : by_ ≤ 2 ^ 12)
    (q : ∀ s' h', RowZ F K h h' s' ys → Ext [] h h' → Tells (fun m => k m s' h') Q) : Tells (fun m => arb (appR n by_ h .nils v) (call m) (k m)) Q := by
  have o1 := o.fam F (Z' := fun q => K ≤ q ∧ q < h.next) fun q hq k => ⟨hz q hq k, hq⟩
  refine Tells.copy o1 (by rw [F.hn, hn]) hl hby fun s' h' g' x' w' => ?_
  refine q s' h' ⟨w', g'.fam F fun q hq ⟨z1, z2⟩ => ⟨?_, z1⟩⟩ x'
  rintro ⟨b, hb, rfl⟩
  have := (w' b hb).1
  omega
theorem Tells.copyZE {α : Type} {F : Fam α} {Z : Nat → Prop} {K : Nat} {ys : List α} {v : AVal} {n by_ : Nat} {k : Nat → AVal → Heap → Res β} (o : Sl (F.r Z) h v ys) (hz : ∀ q, q < h.next → Z q → K ≤ q) (hn : F.n = n) (hl : ys.length ≤ 2 ^ 33) (hby : by_ ≤ 2 ^ 12)
    (q : ∀ s' h', RowZ F K h h' s' ys → Ext [] h h' → Tells (fun m => k m s' h') Q) : Tells (fun m => arbE (appR n by_ h .nils v) (call m) (k m)) Q := by
  have o1 := o.fam F (Z' := fun q => K ≤ q ∧ q < h.next) fun q hq k => ⟨hz q hq k, hq⟩
  refine Tells.copyE o1 (by rw [F.hn, hn]) hl hby fun s' h' g' x' w' => ?_
  refine q s' h' ⟨w', g'.fam F fun q hq ⟨z1, z2⟩ => ⟨?_, z1⟩⟩ x'
  rintro ⟨b, hb, rfl⟩
  have := (w' b hb).1
  omega
end

section
variable {α : Type} {F : Fam α} {K : Nat} {h0 h : Heap} {v : AVal} {xs : List α}
theorem All2.put {β : Type} {R : β → α → Prop} {l : List β} {m : List α} (a : All2 R l m) {i : Nat} {c : List β} {y : List α} (k : All2 R c y) (hi : i + y.length ≤ m.length) : All2 R (l.take i ++ c ++ l.drop (i + c.length)) (m.take i ++ y ++ m.drop (i + y.length)) := by
  have e := k.len
  exact ((a.take i).app k).app (by rw [e]; exact a.drop _)
/-- Elements of a row of one's own are written. -/
theorem RowZ.put (o : RowZ F K h0 h v xs) {i : Nat} {dss : List (List AVal)} {ys : List α} (hd : All2 ((F.r fun q => ¬ h.isRoot v q ∧ K ≤ q).rep h) dss ys) (hi : i + ys.length ≤ xs.length) (hx : 0 < xs.length) :
    ∃ b off len cap sz ex, v = .sl b off len cap sz ex ∧ h.isM b = false ∧ h0.next ≤ h.root b ∧ h.n0 ≤ b ∧ b < h.next ∧ ∃ h', h.put b (off + i * F.n) dss.flatten = some h' ∧ ExtC b h h' ∧ RowZ F K h0 h' v (xs.take i ++ ys ++ xs.drop (i + ys.length)) := by
  obtain ⟨w, ⟨css, s, a⟩, g⟩ := o
  have el := hd.len
  have cl := a.len
  rw [F.hn] at s
  have hds := (reps_all hd).1
  rw [F.hn] at hds
  cases v with
  | sl b off len cap sz ex =>
    obtain ⟨w1, w2, w3⟩ := w b (by simp [AVal.blks])
    obtain ⟨h', k1, k2, k3, k4, k5⟩ := s.put (fun b hb => (w b hb).2.1) (i := i) (dss := dss) (by omega) hds rfl
    have nz : ∀ q, q = h.root b → ¬ (¬ h.isRoot (.sl b off len cap sz ex) q ∧ K ≤ q) := fun q e z => z.1 ⟨b, by simp [AVal.blks], e⟩
    have zz : ∀ q, (¬ h.isRoot (.sl b off len cap sz ex) q ∧ K ≤ q) → (¬ h'.isRoot (.sl b off len cap sz ex) q ∧ K ≤ q) := fun q z => ⟨by
      rintro ⟨d, hd, rfl⟩
      exact z.1 ⟨d, hd, by unfold Heap.root; rw [k2.cls]⟩, z.2⟩
    refine ⟨b, off, len, cap, sz, ex, rfl, k3, w1, w2, w3, h', k1, k2, fun d hd => ?_, ⟨_, by rw [F.hn]; exact k4, ?_⟩, by rw [F.hn]; rw [F.hn] at g; exact k5 h0 g⟩
    · obtain ⟨z1, z2, z3⟩ := w d hd
      exact ⟨by unfold Heap.root; rw [k2.cls]; exact z1, by rw [k2.n0]; exact z2, by rw [k2.next]; exact z3⟩
    · have := (a.put hd (i := i) (by omega)).imp fun cs x r => F.mono (fun q _ z => zz q z) (F.extC (nz _ rfl) k2 r)
      exact this
  | nils =>
    rcases s with ⟨_, rfl⟩ | ⟨b', off', cap', sz', ex', B, e, _⟩
    · simp at cl; omega
    · cases e
  | _ =>
    exfalso
    rcases s with ⟨e, _⟩ | ⟨b', off', cap', sz', ex', B, e, _⟩ <;> cases e
/-- copy(v[i+1:], v[i:]) -/
theorem RowZ.cpy {n : Nat} (o : RowZ F K h0 h v xs) (hn : F.n = n) {i : Nat} (hi : i < xs.length) :
    ∃ b d x, v.blks = [b] ∧ h.isM b = false ∧ h0.next ≤ h.root b ∧ h.n0 ≤ b ∧ slcR n v (some (I ((i : Int) + 1))) none none = some d ∧ slcR n v (some (I (i : Int))) none none = some x ∧
      ∃ h' r, cpyR n h d x = .val r h' ∧ ExtC b h h' ∧ RowZ F K h0 h' v (xs.take (i + 1) ++ (xs.drop i).take (xs.length - (i + 1))) := by
  obtain ⟨css, s, a⟩ := o.2.1
  have cl := a.len
  have hds : All2 ((F.r fun q => ¬ h.isRoot v q ∧ K ≤ q).rep h) ((css.drop i).take (xs.length - (i + 1))) ((xs.drop i).take (xs.length - (i + 1))) := (a.drop i).take _
  have hl2 : ((xs.drop i).take (xs.length - (i + 1))).length = xs.length - (i + 1) := by simp; omega
  obtain ⟨b, off, len, cap, sz, ex, rfl, k1, k2, k3, k4, h', k5, k6, k7⟩ := o.put (i := i + 1) hds (by rw [hl2]; omega) (by omega)
  rw [F.hn] at s
  rcases s with ⟨e, _⟩ | ⟨b', off', cap', sz', ex', B, e, h2, h3, h4, h5, h6, h7, h8⟩
  · cases e
  · cases e
    subst hn
    refine ⟨b, .sl b (off + (i + 1) * F.n) (css.length - (i + 1)) (cap - (i + 1)) sz ex, .sl b (off + i * F.n) (css.length - i) (cap - i) sz ex, rfl, k1, k2, k3, ?_, ?_, h', .int .i64 (Nat.min (css.length - i) (css.length - (i + 1))), ?_, k6, ?_⟩
    · have e1 : ((i : Int) + 1).toNat = i + 1 := by omega
      simp only [slcR, aBoundO, aBound]
      rw [if_pos ⟨by omega, by omega⟩, e1]
      simp only
      rw [if_pos h2]
    · have e1 : ((i : Int)).toNat = i := by omega
      simp only [slcR, aBoundO, aBound]
      rw [if_pos ⟨by omega, by omega⟩, e1]
      simp only
      rw [if_pos h2]
    · have em : Nat.min (css.length - i) (css.length - (i + 1)) = css.length - (i + 1) := by
        show min _ _ = _
        omega
      have hmul : (css.length - (i + 1) + i) * F.n ≤ css.length * F.n := Nat.mul_le_mul_right _ (by omega)
      rw [Nat.add_mul] at hmul
      have hc : h.cells b (off + i * F.n) ((css.length - (i + 1)) * F.n) = some ((css.drop i).take (xs.length - (i + 1))).flatten := by
        rw [show xs.length = css.length from cl.symm]
        unfold Heap.cells
        rw [h4]
        simp only
        rw [if_pos (by omega), flat_take (fun c hc => h8 c (List.mem_of_mem_drop hc)), flat_drop h8, ← h7, ← List.drop_drop, List.drop_take, List.take_take, Nat.min_eq_left (by omega)]
      simp only [cpyR]
      rw [em, hc]
      simp only
      rw [if_pos (reps_all hds).2, k5]
    · have : (xs.take (i + 1) ++ (xs.drop i).take (xs.length - (i + 1)) ++ xs.drop (i + 1 + ((xs.drop i).take (xs.length - (i + 1))).length)) = xs.take (i + 1) ++ (xs.drop i).take (xs.length - (i + 1)) := by
        have e : xs.drop (i + 1 + ((xs.drop i).take (xs.length - (i + 1))).length) = [] := List.drop_eq_nil_of_le (by rw [hl2]; omega)
        rw [e, List.append_nil]
      rw [← this]
      exact k7
end
end Go.Ab
