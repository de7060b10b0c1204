/-
  Texts of a claim, merged: HandP, Hand0, HandT, Path0, Path1, Tree0, Path2a, TreeT, Path4a, Turn1, Turn3, FeedX, Rise, TW0.
-/
import Derived.Test.YtchmlbjjadlleaaB1
import Derived.Test.YtchmlbjjadlleaaSprecentorhand
import Derived.Test.YtchmlbjjadlleaaB2
import Derived.Test.YtchmlbjjadlleaaRoom
import Derived.Test.YtchmlbjjadlleaaStree
import Derived.Test.YtchmlbjjadlleaaSprecentorref9
import Derived.Test.YtchmlbjjadlleaaB3
import Derived.Test.YtchmlbjjadlleaaMak
import Derived.Test.YtchmlbjjadlleaaSturn
import Derived.Test.YtchmlbjjadlleaaCls
import Derived.Test.YtchmlbjjadlleaaWrE
set_option linter.unusedVariables false
set_option linter.unusedSimpArgs false
/-! What precentorhand's Pick tells. -/
namespace Go.Proofs.Ytchmlbjjadlleaa
open Go.Ab

section
variable {X : XTab}

def pick (n m : Int) : Int := if m < 1 then 0 else if n.tmod m < 0 then n.tmod m + m else n.tmod m

theorem pick_lo (n m : Int) : 0 ≤ pick n m := by
  unfold pick
  split
  · omega
  · split
    · have := Int.lt_tmod_of_pos n (show 0 < m by omega); omega
    · omega
theorem pick_hi (n m : Int) (h : 1 ≤ m) : pick n m < m := by
  unfold pick
  have := Int.tmod_lt_of_pos n (show 0 < m by omega)
  split
  · omega
  · split <;> omega

theorem Pick (hX : OnlyKnown X) (n m : Int) (hm : In64 m) (h : Heap) : Tells (fun q => acallX Try.prog X q F_precentorhand_Pick [I n, I m] h) fun v h' => v = I (pick n m) ∧ h' = h := by
  refine R_precentorhand_Pick _ _ (hX _ _ rfl) ?_
  unfold S_precentorhand_Pick
  simp
  by_cases h1 : m < 1
  · simp [h1]
    exact Tells.ok ⟨by simp [pick, h1], rfl⟩
  · simp [h1, J_precentorhand_Pick_0, aBin_rem _ _ _ _ _ _ _ (show m ≠ 0 by omega)]
    by_cases h2 : n.tmod m < 0
    · simp [h2, J_precentorhand_Pick_1]
      refine Tells.ok ⟨?_, rfl⟩
      have := Int.lt_tmod_of_pos n (show 0 < m by omega)
      rw [wrap_id (by omega) (by have := hm.2; omega)]
      simp [pick, h1, h2]
    · simp [h2, J_precentorhand_Pick_1]
      exact Tells.ok ⟨by simp [pick, h1, h2], rfl⟩

end
end Go.Proofs.Ytchmlbjjadlleaa

/-! What precentorhand's Next tells. -/
namespace Go.Proofs.Ytchmlbjjadlleaa
open Go.Ab

/-- A feed of raw numbers, asked k times at most. -/
def Feed (h : Heap) (bf k : Nat) : Prop := ∃ L at_ xs, Ob h bf [L, I at_] ∧ 0 ≤ at_ ∧ at_ ≤ (k : Int) ∧ Sl intR h L xs ∧ xs.length < 2 ^ 63 ∧ ∀ c, c ∈ L.blks → c < h.n0
theorem Feed.ext {S : List Nat} {h h' : Heap} {bf k : Nat} (f : Feed h bf k) (e : Ext S h h') (hb : bf ∉ S) : Feed h' bf k := by
  obtain ⟨L, a, xs, h1, h2, h3, h4, h5, h6⟩ := f
  exact ⟨L, a, xs, h1.ext e hb, h2, h3, h4.ext e, h5, by rw [e.n0]; exact h6⟩
theorem Feed.e {h h' : Heap} {bf k : Nat} (f : Feed h bf k) (e : Ext [] h h') : Feed h' bf k := f.ext e (by simp)
theorem Feed.mono {h : Heap} {bf k k' : Nat} (f : Feed h bf k) (hk : k ≤ k') : Feed h bf k' := by
  obtain ⟨L, a, xs, h1, h2, h3, h4⟩ := f
  exact ⟨L, a, xs, h1, h2, by omega, h4⟩
theorem Feed.lt {h : Heap} {bf k : Nat} (f : Feed h bf k) : bf < h.next := by obtain ⟨L, a, xs, h1, _⟩ := f; exact h1.lt
theorem Feed.m {h : Heap} {bf k : Nat} (f : Feed h bf k) : h.isM bf = true := by obtain ⟨L, a, xs, h1, _⟩ := f; exact h1.2.1

section
variable {X : XTab}

theorem Next (hX : OnlyKnown X) (n : Int) (hn : In64 n) {h : Heap} {bf k : Nat} (f : Feed h bf k) (hk : k < 2 ^ 62) :
    Tells (fun q => acallX Try.prog X q F_precentorhand_Feed_Next [.ptr bf 0, I n] h) fun v h' => ∃ r, v = I r ∧ 0 ≤ r ∧ (1 ≤ n → r < n) ∧ (n < 1 → r = 0) ∧ Ext [bf] h h' ∧ Feed h' bf (k + 1) := by
  refine R_precentorhand_Feed_Next _ _ (hX _ _ rfl) ?_
  unfold S_precentorhand_Feed_Next
  obtain ⟨L, a, xs, h1, h2, h3, h4, h5, h6⟩ := f
  have hlen := h4.len
  by_cases hz : xs.length = 0
  · simp [h1.1, hlen, hz]
    exact Tells.ok ⟨0, rfl, by omega, fun _ => by omega, fun _ => rfl, .refl, ⟨L, a, xs, h1, h2, by omega, h4, h5, h6⟩⟩
  · have hl : (xs.length : Int) ≠ 0 := by omega
    have hl2 : ((xs.length : Int) == 0) = false := beq_eq_false_iff_ne.2 hl
    have m0 : 0 ≤ a.tmod xs.length := Int.tmod_nonneg _ h2
    have m1 : a.tmod xs.length < xs.length := Int.tmod_lt_of_pos _ (by omega)
    obtain ⟨x, hx⟩ : ∃ x, xs[(a.tmod xs.length).toNat]? = some x := ⟨_, List.getElem?_eq_getElem (by omega)⟩
    obtain ⟨b, p, B, c, q1, q2, q3⟩ := h4.at (n := 1) rfl m0 hx
    have d0 : 0 ≤ a.tdiv xs.length := Int.tdiv_nonneg h2 (by omega)
    have d1 : a.tdiv xs.length ≤ a := Int.tdiv_le_self _ h2
    have w1 : IntKind.i64.wrap (a.tdiv xs.length) = a.tdiv xs.length := wrap_id (by omega) (by omega)
    have w2 : IntKind.i64.wrap (1 + a.tdiv xs.length) = 1 + a.tdiv xs.length := wrap_id (by omega) (by omega)
    have w3 : IntKind.i64.wrap (a + 1) = a + 1 := wrap_id (by omega) (by omega)
    have q4 := q2.ld0 (x := I x) (by rw [q3]; rfl)
    obtain ⟨h', s1, s2, s3⟩ := h1.st (off := 1) (n := 1) (v := I (a + 1)) rfl rfl (by simp)
    simp only [ld1_ptr, cell_eq] at q4
    simp [h1.1, hlen, hl2, J_precentorhand_Feed_Next_0, aBin_rem _ _ _ _ _ _ _ hl, aBin_quo _ _ _ _ _ _ _ hl, q1, q4, w1, w2, aBin_quo _ _ _ _ _ _ _ (show 1 + a.tdiv xs.length ≠ 0 by omega), w3, s1]
    refine Tells.bind (Pick hX _ n hn _) ?_
    rintro v h' ⟨rfl, rfl⟩
    exact Tells.ok ⟨_, rfl, pick_lo _ _, pick_hi _ _, fun q => by simp [pick, q], s3, ⟨L, a + 1, xs, by simpa [splice] using s2, by omega, by omega, h4.ext s3, h5, by rw [s3.n0]; exact h6⟩⟩

end
end Go.Proofs.Ytchmlbjjadlleaa

/-! What precentorhand's Tree tells. -/
namespace Go.Proofs.Ytchmlbjjadlleaa
open Go.Ab

section
variable {X : XTab}

/-- Each parent lies ahead. -/
def TreeOk (ys : List Int) : Prop := ∀ (i : Nat) y, ys[i]? = some y → 0 ≤ y ∧ y ≤ i
theorem TreeOk.app {ys : List Int} {x : Int} (h : TreeOk ys) (h0 : 0 ≤ x) (h1 : x ≤ ys.length) : TreeOk (ys ++ [x]) := by
  intro i y hi
  rcases Nat.lt_or_ge i ys.length with k1 | k1
  · rw [List.getElem?_append_left k1] at hi; exact h i y hi
  · rw [List.getElem?_append_right k1] at hi
    have : i - ys.length = 0 := by
      cases hd : i - ys.length with
      | zero => rfl
      | succ m => rw [hd] at hi; simp at hi
    rw [this] at hi
    simp at hi
    subst hi
    exact ⟨h0, by omega⟩

theorem Tree (hX : OnlyKnown X) (most : Int) (hm : In64 most) (hm2 : most ≤ 1000) {h : Heap} {bf k : Nat} (f : Feed h bf k) (hk : k < 2 ^ 61) :
    Tells (fun q => acallX Try.prog X q F_precentorhand_Feed_Tree [.ptr bf 0, I most] h) fun v h' => ∃ ys : List Int, Gl intR h h' v ys ∧ TreeOk ys ∧ (1 ≤ most → (ys.length : Int) < most) ∧ ys.length ≤ 1000 ∧
      Ext [bf] h h' ∧ Feed h' bf (k + 1001) := by
  refine R_precentorhand_Feed_Tree _ _ (hX _ _ rfl) ?_
  refine Tells.prot fun Q' hQ => ?_
  unfold S_precentorhand_Feed_Tree
  simp
  refine Tells.bind (Next hX most hm f (by omega)) ?_
  rintro v h1 ⟨r, rfl, r0, r1, r2, e1, f1⟩
  have rb : r ≤ 1000 := by
    rcases Int.lt_or_le most 1 with q | q
    · rw [r2 q]; decide
    · have := r1 q; omega
  refine Tells.bind (Tells.loop (fun n t g => ∃ ys : List Int, t 0 = .ptr bf 0 ∧ t 6 = I (r - ys.length) ∧ Gl intR h g (t 5) ys ∧ TreeOk ys ∧ ys.length + n = r.toNat ∧ Ext [bf] h g ∧ Feed g bf (k + 1 + ys.length))
      (Q := fun p g => p.1 = .exit 0 ∧ ∃ ys : List Int, Gl intR h g (p.2 5) ys ∧ TreeOk ys ∧ ys.length = r.toNat ∧ Ext [bf] h g ∧ Feed g bf (k + 1 + ys.length)) ?_ r.toNat _ _ ?_) ?_
  · rintro n t g ⟨ys, t0, t6, o, hy, hn, e, fd⟩
    refine Tells.prot fun Q2 hQ2 => ?_
    unfold L_precentorhand_Feed_Tree_1
    simp [t6]
    refine Tells.cb (fun hc => ?_) (fun hc => ?_)
    · simp at hc
      have w : IntKind.i64.wrap ((ys.length : Int) + 1) = ys.length + 1 := wrap_id (by omega) (by omega)
      simp [J_precentorhand_Feed_Tree_2, t0, o.1.len, w]
      refine Tells.bind (Next hX _ ⟨by omega, by omega⟩ fd (by omega)) ?_
      rintro v h2 ⟨x, rfl, x0, x1, x2, e2, f2⟩
      have o2 := o.extO e2 (by simp [fd.m])
      try simp
      refine Tells.app1 o2 (by rfl) (by rfl) (show intR.rep h2 [I x] x from rfl) (by rfl) (by rfl) (by omega) (by decide) (e.trans e2).next fun s' h3 g3 x3 y3 z3 => ?_
      have w2 : IntKind.i64.wrap (r - (ys.length : Int) - 1) = r - (ys.length + 1) := by rw [wrap_id (by omega) (by omega)]; omega
      have f3 := f2.ext x3 fun q => by have := o2.1.blk _ q; rw [f2.m] at this; cases this.1
      simp [J_precentorhand_Feed_Tree_3, t6, w2]
      have := x1 (by omega)
      exact Tells.ok (hQ2 _ _ (.inl ⟨rfl, n - 1, by omega, ys ++ [x], by simp [t0], by simp, by simpa using g3, hy.app x0 (by omega), by simp; omega, y3 _ (e.trans e2), by simpa [Nat.add_assoc] using f3⟩))
    · simp at hc
      exact Tells.ok (hQ2 _ _ (.inr ⟨by simp, rfl, ys, by simpa using o, hy, by omega, e, fd⟩))
  · exact ⟨[], by simp, by simp, by simpa using Gl.nil, by simp [TreeOk], by simp, e1, f1⟩
  · rintro ⟨ex, t⟩ g ⟨rfl, ys, o, hy, hn, e, fd⟩
    simp [J_precentorhand_Feed_Tree_0]
    refine Tells.ok (hQ _ _ ⟨ys, by simpa using o, hy, fun q => ?_, ?_, e, fd.mono (by omega)⟩)
    · have := r1 q; omega
    · omega

end
end Go.Proofs.Ytchmlbjjadlleaa

/-! What tree.up tells. -/
namespace Go.Ab

theorem app1_form {α : Type} {r : Rp α} {h0 h h' : Heap} {n by_ : Nat} {s s' : AVal} {xs : List α} {c : List AVal} (g : Gl r h0 h s xs) (hn : r.n = n) (hc : c.length = n) (e : appR n by_ (h.new false c) s (.sl h.next 0 1 1 n true) = .val s' h') : ∃ b len cap, s' = .sl b 0 len cap n false := by
  have hpos := r.pos
  have hsrc : aSource (h.new false c) n false (.sl h.next 0 1 1 n true) = some (1, c) := by
    simp only [aSource, Heap.cells, Heap.get_new, if_true]
    rw [if_neg (by simp), if_neg (by simp), if_pos (by omega)]
    simp [← hc]
  unfold appR at e
  rw [hsrc] at e
  rcases g.2 with rfl | ⟨b, off, len, cap, sz, ex, rfl, k⟩
  · simp only at e
    rw [if_neg (by omega)] at e
    split at e
    · cases e; exact ⟨_, _, _, rfl⟩
    · cases e
  · have hcap : len = cap := by rcases k with ⟨_, k⟩ | ⟨_, _, k, _⟩ <;> omega
    subst hcap
    simp only at e
    split at e
    · rw [if_neg (by omega)] at e
      split at e
      · split at e
        · cases e; exact ⟨_, _, _, rfl⟩
        · split at e
          · split at e
            · cases e; exact ⟨_, _, _, rfl⟩
            · cases e
          · cases e
      · cases e
    · cases e

section
variable {β : Type} {Q : β → Heap → Prop} {h : Heap} {call : Nat → FuncId → List AVal → Heap → Res AVal}
/-- append(s, x) to a row of one's own; what comes is a row that append told. -/
theorem Tells.app1F {α : Type} {r : Rp α} {h0 : Heap} {xs : List α} {s v : AVal} {c z : List AVal} {x : α} {n by_ : Nat} {k : Nat → AVal → AVal → Heap → Res β} (g : Gl r h0 h s xs) (wr : Wr h0 h s) (hv : v.cells = c) (hk : v.known = true) (hx : r.rep h c x) (hn : r.n = n) (hz : z.length = n) (hl : xs.length < 2 ^ 33)
    (hby : by_ ≤ 2 ^ 12) (hle : h0.next ≤ h.next) (q : ∀ s' h', Gl r h0 h' s' (xs ++ [x]) → Wr h0 h' s' → Ext s.blks h h' → (∀ S, Ext S h0 h → Ext S h0 h') → (∃ b len cap, s' = .sl b 0 len cap n false) → Tells (fun m => k m (.sl h.next 0 1 1 n true) s' h') Q) :
    Tells (fun m => arb (bslR n z 1 h [(0, n, v)]) (call m) fun a h2 => arb (appR n by_ h2 s a) (call m) (k m a)) Q := by
  subst hv
  have hc : v.cells.length = n := by rw [← hn]; exact r.len hx
  obtain ⟨s', h', q1, q2, q3, q4, q5⟩ := g.app1 (by_ := by_) hx hn hl hby hle
  have e1 := Ext.new h false v.cells
  simp only [bsl1 hz hk hc, arb_val, q1]
  exact q s' h' q2 (appR_wr q1 (wr.ext e1) (Nat.le_trans hle e1.next)) q3 q4 (app1_form g hn hc q1)
/-- A slice that is written down is a row of one's own. -/
theorem Tells.litW {α : Type} {r : Rp α} {xs : List α} {css : List (List AVal)} {n j : Nat} {z cells : List AVal} {parts : List (Nat × Nat × AVal)} {k : Nat → AVal → Heap → Res β} (hn : r.n = n) (o : All2 (r.rep h) css xs) (hk : xs.length = j) (hc : css.flatten = cells)
    (e : bslR n z j h parts = .val (.sl h.next 0 j j n true) (h.new false cells)) (q : ∀ v h1, Gl r h h1 v xs → Wr h h1 v → Ext [] h h1 → Tells (fun m => k m v h1) Q) : Tells (fun m => arb (bslR n z j h parts) (call m) (k m)) Q := by
  simp only [e, arb_val]
  have g := (Sl.lit (h0 := h) hn o hk hc).2
  refine q _ _ g (fun b hb => ?_) (Ext.new _ _ _)
  have hl := (g.1.blk b hb).2
  simp [AVal.blks] at hb
  subst hb
  refine ⟨?_, n0_le h, hl⟩
  unfold Heap.root
  rw [Heap.cls_new, Heap.cls_ge (Nat.le_refl _)]
  exact Nat.le_refl _
end
end Go.Ab

namespace Go.Proofs.Ytchmlbjjadlleaa
open Go.Ab

/-- A broker, its parent, and so on up to the root (k steps at most). -/
def upN : Nat → List Int → Int → List Int
  | 0, _, b => [b]
  | k + 1, ys, b => if 0 < b then b :: upN k ys (ys[(b - 1).toNat]?.getD 0) else [b]
def upF (ys : List Int) (b : Int) : List Int := upN b.toNat ys b

theorem upN_fuel {ys : List Int} (ok : TreeOk ys) : ∀ (k : Nat) (b : Int), b ≤ k → b ≤ ys.length → upN k ys b = upN (k + 1) ys b
  | 0, b, h, _ => by simp [upN, show ¬ 0 < b by omega]
  | k + 1, b, h, hb => by
    by_cases p : 0 < b
    · have hlt : (b - 1).toNat < ys.length := by omega
      have e : ys[(b - 1).toNat]? = some ys[(b - 1).toNat] := List.getElem?_eq_getElem hlt
      have := ok _ _ e
      obtain ⟨y, hy⟩ : ∃ y, ys[(b - 1).toNat]?.getD 0 = y := ⟨_, rfl⟩
      have hy2 : 0 ≤ y ∧ y ≤ ((b - 1).toNat : Int) := by rw [← hy, e]; exact this
      have ih := upN_fuel ok k (ys[(b - 1).toNat]?.getD 0) (by rw [hy]; omega) (by rw [hy]; omega)
      unfold upN
      rw [if_pos p, if_pos p, ih]
    · simp [upN, p]
theorem upF_step {ys : List Int} (ok : TreeOk ys) {b y : Int} (hb : 0 < b) (hl : b ≤ ys.length) (hy : ys[(b - 1).toNat]? = some y) : upF ys b = b :: upF ys y := by
  have hy2 := ok _ _ hy
  have grow : ∀ (d k : Nat) (c : Int), c ≤ k → c ≤ ys.length → upN (k + d) ys c = upN k ys c := by
    intro d
    induction d with
    | zero => intro k c _ _; rfl
    | succ d ih => intro k c h1 h2; rw [← Nat.add_assoc, ← upN_fuel ok (k + d) c (by omega) h2]; exact ih k c h1 h2
  unfold upF
  obtain ⟨k, hk⟩ : ∃ k, b.toNat = k + 1 := ⟨b.toNat - 1, by omega⟩
  rw [hk]
  conv => lhs; unfold upN
  rw [if_pos hb, hy]
  simp only [Option.getD_some]
  congr 1
  have : k = y.toNat + (k - y.toNat) := by omega
  rw [this]
  exact grow _ _ _ (by omega) (by omega)

section
variable {X : XTab}
theorem tree_up (hX : OnlyKnown X) {h : Heap} {v : AVal} {ys : List Int} (o : Sl intR h v ys) (ok : TreeOk ys) (hl : ys.length ≤ 7) {b : Int} (h0 : 0 ≤ b) (hb : b ≤ ys.length) :
    Tells (fun q => acallX Try.prog X q F_tree_up [v, I b] h) fun a h' => Gl intR h h' a (upF ys b) ∧ Wr h h' a ∧ (1 < (upF ys b).length → ∃ c len cap, a = .sl c 0 len cap 1 false) ∧ Ext [] h h' := by
  refine R_tree_up _ _ (hX _ _ rfl) ?_
  refine Tells.prot fun Q' hQ => ?_
  unfold S_tree_up
  simp
  refine Tells.litW (r := intR) (xs := [b]) (css := [[I b]]) (by rfl) ⟨rfl, trivial⟩ (by rfl) (by rfl) (bsl1_int _ _ _ _) fun w h1 g1 wr1 x1 => ?_
  try simp
  refine Tells.bind (Tells.loop (fun n t g => ∃ (y : Int) (pre : List Int), t 0 = v ∧ t 1 = I y ∧ 0 ≤ y ∧ y ≤ n ∧ y ≤ ys.length ∧ pre.length + n ≤ 7 ∧ upF ys b = pre ++ upF ys y ∧ Gl intR h g (t 5) (pre ++ [y]) ∧ Wr h g (t 5) ∧ (1 < (pre ++ [y]).length → ∃ c len cap, t 5 = .sl c 0 len cap 1 false) ∧ Ext [] h g)
    (Q := fun p g => p.1 = .exit 0 ∧ Gl intR h g (p.2 5) (upF ys b) ∧ Wr h g (p.2 5) ∧ (1 < (upF ys b).length → ∃ c len cap, p.2 5 = .sl c 0 len cap 1 false) ∧ Ext [] h g) ?_ ys.length _ _ ?_) ?_
  · rintro n t g ⟨y, pre, t0, t1, y0, yn, yl, pl, hu, go, wr, fm, x⟩
    refine Tells.prot fun Q2 hQ2 => ?_
    have og := o.ext x
    unfold L_tree_up_1
    simp [t1]
    refine Tells.cb (fun hc => ?_) (fun hc => ?_)
    · simp at hc
      obtain ⟨z, hz⟩ : ∃ z, ys[(y - 1).toNat]? = some z := ⟨_, List.getElem?_eq_getElem (by omega)⟩
      have hz2 := ok _ _ hz
      have e1 : (((y - 1).toNat : Nat) : Int) = y - 1 := by omega
      obtain ⟨bb, pp, B, q1, q2, q3⟩ := og.atI hz
      rw [e1] at q1
      have w : IntKind.i64.wrap (y - 1) = y - 1 := wrap_id (by omega) (by omega)
      simp [J_tree_up_2, t0, t1, w, q1, q2, q3]
      refine Tells.app1F go wr (by rfl) (by rfl) (show intR.rep g [I z] z from rfl) (by rfl) (by rfl) (by simp; omega) (by decide) x.next fun s3 h3 g3 w3 x3 y3 f3 => ?_
      try simp
      refine Tells.ok (hQ2 _ _ (.inl ⟨rfl, n - 1, by omega, z, pre ++ [y], by simp [t0], by simp, by omega, by omega, by omega, by simp; omega, ?_, by simpa using g3, by simpa using w3, fun _ => by simpa using f3, y3 [] x⟩))
      rw [hu, upF_step ok hc yl hz]
      simp
    · simp at hc
      have hy : y = 0 := by omega
      have e : upF ys y = [y] := by subst hy; rfl
      rw [e] at hu
      exact Tells.ok (hQ2 _ _ (.inr ⟨by simp, rfl, by rw [hu]; simpa using go, by simpa using wr, fun hl => by simpa using fm (by rw [← hu]; exact hl), x⟩))
  · exact ⟨b, [], by simp, by simp, h0, hb, hb, by simpa using hl, rfl, by simpa using g1, by simpa using wr1, fun q => by simp at q, x1⟩
  · rintro ⟨ex, t⟩ g ⟨rfl, go, wr, fm, x⟩
    simp [J_tree_up_0]
    exact Tells.ok (hQ _ _ ⟨go, wr, fm, x⟩)
end
end Go.Proofs.Ytchmlbjjadlleaa

/-! What tree.path tells. -/
namespace Go.Proofs.Ytchmlbjjadlleaa
open Go.Ab

def trim : Nat → List Int → List Int → List Int × List Int
  | 0, x, y => (x, y)
  | k + 1, x, y => if 1 < x.length ∧ 1 < y.length ∧ x[x.length - 2]? = y[y.length - 2]? then trim k x.dropLast y.dropLast else (x, y)
def pathF (ys : List Int) (a b : Int) : List Int := (trim 9 (upF ys a) (upF ys b)).1 ++ (trim 9 (upF ys a) (upF ys b)).2.dropLast.reverse

/-- A row that append takes, or that was cut at its end. -/
def Ap (h0 h : Heap) (m : Nat) (v : AVal) (xs : List Int) : Prop := Sl intR h v xs ∧ (Gro h0 h 1 v ∨ ∃ c len cap, v = .sl c 0 len cap 1 false ∧ len < cap ∧ Rm h0 h 1 v ∧ h.root c < m)

theorem cut_form {c len cap hi : Nat} (h : hi ≤ len) (h2 : len ≤ cap) : slcR 1 (.sl c 0 len cap 1 false) none (some (I hi)) none = some (.sl c 0 hi cap 1 false) := by
  have e1 : (hi : Int) ≤ (len : Int) := by omega
  have e2 : (hi : Int) ≤ (cap : Int) := by omega
  simp [slcR, aBoundO, aBound, e1, e2]

section
variable {β : Type} {Q : β → Heap → Prop} {h : Heap} {call : Nat → FuncId → List AVal → Heap → Res AVal}
theorem apOne {h0 : Heap} {m : Nat} {xs : List Int} {s : AVal} {x : Int} {k : Nat → AVal → AVal → Heap → Res β} (a : Ap h0 h m s xs) (hl : xs.length < 2 ^ 33) (hle : h0.next ≤ h.next)
    (q : ∀ s' h', Ap h0 h' m s' (xs ++ [x]) → (∀ S, Ext S h0 h → Ext S h0 h') → (∀ (u : AVal) (us : List Int), Sl intR h u us → (∀ b, b ∈ u.blks → m ≤ h.root b) → Sl intR h' u us ∧ ∀ b, b ∈ u.blks → m ≤ h'.root b) → Tells (fun m => k m (.sl h.next 0 1 1 1 true) s' h') Q) :
    Tells (fun m => arb (bslR 1 [.int .i64 0] 1 h [(0, 1, I x)]) (call m) fun a h2 => arb (appR 1 8 h2 s a) (call m) (k m a)) Q := by
  obtain ⟨o, g | ⟨c, len, cap, rfl, hlt, rm, hr⟩⟩ := a
  · refine Tells.app1 (r := intR) (h0 := h0) ⟨o, g⟩ (by rfl) (by rfl) (show intR.rep h [I x] x from rfl) (by rfl) (by rfl) hl (by decide) hle fun s' h' g' x' y' z' => ?_
    exact q s' h' ⟨g'.1, .inl g'.2⟩ y' (fun u us ou hu => ⟨ou.ext x', fun b hb => by rw [root_ext x' (ou.blk b hb).2]; exact hu b hb⟩)
  · obtain ⟨h', e, o', rm', y', hcls, ob', fr⟩ := rm.put1 (r := intR) (by_ := 8) (x := x) (c := [I x]) (fun q => q) o hlt rfl rfl
    simp only [bsl1 (n := 1) (z := [.int .i64 0]) (x := I x) rfl rfl rfl, arb_val]
    have e' : appR 1 8 (h.new false (I x).cells) (.sl c 0 len cap 1 false) (.sl h.next 0 1 1 1 true) = .val (.sl c 0 (len + 1) cap 1 false) h' := e
    rw [e']
    simp only [arb_val]
    have hc : c < h.next := (o.blk c (by simp [AVal.blks])).2
    refine q _ h' ⟨o', ?_⟩ y' fun u us ou hu => ⟨fr u us m ou hu hr, fun b hb => by rw [hcls b]; exact hu b hb⟩
    by_cases hf : len + 1 = cap
    · subst hf
      exact .inl rm'.gro
    · exact .inr ⟨c, len + 1, cap, rfl, by omega, rm', by rw [hcls c]; exact hr⟩
end

section
variable {X : XTab}

theorem trim_len : ∀ (k : Nat) (x y : List Int), (trim k x y).2.length ≤ y.length
  | 0, _, _ => Nat.le_refl _
  | k + 1, x, y => by
    simp only [trim]
    split
    · have := trim_len k x.dropLast y.dropLast
      simp at this; omega
    · exact Nat.le_refl _
theorem trim_len1 : ∀ (k : Nat) (x y : List Int), (trim k x y).1.length ≤ x.length
  | 0, _, _ => Nat.le_refl _
  | k + 1, x, y => by
    simp only [trim]
    split
    · have := trim_len1 k x.dropLast y.dropLast
      simp at this; omega
    · exact Nat.le_refl _
theorem upN_len : ∀ (k : Nat) (ys : List Int) (b : Int), 1 ≤ (upN k ys b).length ∧ (upN k ys b).length ≤ k + 1
  | 0, ys, b => by simp [upN]
  | k + 1, ys, b => by
    simp only [upN]
    split
    · have := upN_len k ys (ys[(b - 1).toNat]?.getD 0)
      simp only [List.length_cons]; omega
    · simp

theorem tree_path (hX : OnlyKnown X) {h : Heap} {v : AVal} {ys : List Int} (o : Sl intR h v ys) (ok : TreeOk ys) (hl : ys.length ≤ 7) {a b : Int} (a0 : 0 ≤ a) (al : a ≤ ys.length) (b0 : 0 ≤ b) (bl : b ≤ ys.length) :
    Tells (fun q => acallX Try.prog X q F_tree_path [v, I a, I b] h) fun r h' => Sl intR h' r (pathF ys a b) ∧ Ext [] h h' := by
  refine R_tree_path _ _ _ (hX _ _ rfl) ?_
  refine Tells.prot fun Q' hQ => ?_
  unfold S_tree_path
  simp
  refine Tells.bind (tree_up hX o ok hl a0 al) ?_
  rintro va h1 ⟨ga, wa, fa, x1⟩
  try simp
  refine Tells.bind (tree_up hX (o.ext x1) ok hl b0 bl) ?_
  rintro vb h2 ⟨gb, wb, fb, x2⟩
  have x12 := x1.trans x2
  have ga2 := ga.e x2
  have la := upN_len a.toNat ys a
  have lb := upN_len b.toNat ys b
  have hpath : pathF ys a b = (trim 9 (upF ys a) (upF ys b)).1 ++ (trim 9 (upF ys a) (upF ys b)).2.dropLast.reverse := rfl
  change 1 ≤ (upF ys a).length ∧ (upF ys a).length ≤ _ at la
  change 1 ≤ (upF ys b).length ∧ (upF ys b).length ≤ _ at lb
  generalize upF ys a = xs at *
  generalize upF ys b = zs at *
  generalize hT : trim 9 xs zs = T0 at *
  have apa : Ap h h2 h1.next va xs := ⟨ga2.1, .inl ga2.2⟩
  try simp
  refine Tells.bind (Tells.loop (fun n t g => ∃ (x z : List Int) (p q : AVal), g = h2 ∧ t 7 = p ∧ t 8 = q ∧ x.length ≤ n ∧ n ≤ 9 ∧ 1 ≤ x.length ∧ 1 ≤ z.length ∧ z.length ≤ 9 ∧ trim n x z = T0 ∧ Ap h h2 h1.next p x ∧ (1 < x.length → ∃ c len cap, p = .sl c 0 len cap 1 false ∧ x.length = len ∧ len ≤ cap) ∧ (∀ b, b ∈ p.blks → h2.root b < h1.next) ∧ Sl intR h2 q z ∧ (1 < z.length → ∃ c len cap, q = .sl c 0 len cap 1 false ∧ z.length = len ∧ len ≤ cap) ∧ ∀ b, b ∈ q.blks → h1.next ≤ h2.root b)
    (Q := fun r g => r.1 = .exit 0 ∧ g = h2 ∧ Ap h h2 h1.next (r.2 7) T0.1 ∧ Sl intR h2 (r.2 8) T0.2 ∧ 1 ≤ T0.2.length ∧ T0.2.length ≤ 9 ∧ ∀ b, b ∈ (r.2 8).blks → h1.next ≤ h2.root b) ?_ 9 _ _ ?_) ?_
  · rintro n t g ⟨x, z, p, q, rfl, t7, t8, xn, n9, x1', z1', z9, ht, ap, fx, rx, sq, fz, rz⟩
    refine Tells.prot fun Q2 hQ2 => ?_
    have stop : ∀ t2 : T, t2 7 = p → t2 8 = q → ¬ (1 < x.length ∧ 1 < z.length ∧ x[x.length - 2]? = z[z.length - 2]?) → Q2 (.exit 0, t2) g := by
      intro t2 e7 e8 hn
      have hT2 : T0 = (x, z) := by
        rw [← ht]
        obtain ⟨k, rfl⟩ : ∃ k, n = k + 1 := ⟨n - 1, by omega⟩
        simp only [trim]
        rw [if_neg hn]
      refine hQ2 _ _ (.inr ⟨by simp, rfl, rfl, ?_⟩)
      simp only [e7, e8]
      rw [hT2]
      exact ⟨ap, sq, z1', z9, rz⟩
    unfold L_tree_path_5
    have lx := ap.1.len
    have lz := sq.len
    by_cases h1 : 1 < x.length
    · have h1' : (1 : Int) < x.length := by omega
      by_cases h2 : 1 < z.length
      · have h2' : (1 : Int) < z.length := by omega
        obtain ⟨u, hu⟩ : ∃ u, x[x.length - 2]? = some u := ⟨_, List.getElem?_eq_getElem (by omega)⟩
        obtain ⟨w, hw⟩ : ∃ w, z[z.length - 2]? = some w := ⟨_, List.getElem?_eq_getElem (by omega)⟩
        obtain ⟨b1, p1, B1, q1, q2, q3⟩ := ap.1.atI hu
        obtain ⟨b2, p2, B2, k1, k2, k3⟩ := sq.atI hw
        have w1 : IntKind.i64.wrap ((x.length : Int) - 2) = ((x.length - 2 : Nat) : Int) := by rw [wrap_id (by omega) (by omega)]; omega
        have w2 : IntKind.i64.wrap ((z.length : Int) - 2) = ((z.length - 2 : Nat) : Int) := by rw [wrap_id (by omega) (by omega)]; omega
        have w3 : IntKind.i64.wrap ((x.length : Int) - 1) = ((x.length - 1 : Nat) : Int) := by rw [wrap_id (by omega) (by omega)]; omega
        have w4 : IntKind.i64.wrap ((z.length : Int) - 1) = ((z.length - 1 : Nat) : Int) := by rw [wrap_id (by omega) (by omega)]; omega
        by_cases heq : u = w
        · obtain ⟨c, len, cap, rfl, e1, e2⟩ := fx h1
          obtain ⟨c', len', cap', rfl, e1', e2'⟩ := fz h2
          have cf := cut_form (c := c) (len := len) (cap := cap) (hi := x.length - 1) (by omega) e2
          have cf' := cut_form (c := c') (len := len') (cap := cap') (hi := z.length - 1) (by omega) e2'
          obtain ⟨v1, m1, m2, _⟩ := ap.1.takeR (n := 1) rfl (hi := x.length - 1) (by omega)
          obtain ⟨v2, m1', m2', _⟩ := sq.takeR (n := 1) rfl (hi := z.length - 1) (by omega)
          have j := cf.symm.trans m1
          cases j
          have j := cf'.symm.trans m1'
          cases j
          rw [← List.dropLast_eq_take] at m2 m2'
          simp [t7, t8, lx, lz, h1', h2', w1, w2, q1, q2, q3, k1, k2, k3, heq, J_tree_path_6, w3, w4, cf, cf']
          have rm : Rm h g 1 (.sl c 0 len cap 1 false) := by
            rcases ap.2 with r | ⟨_, _, _, r, _, r2, _⟩
            · exact Rm.of r
            · exact r2
          refine Tells.ok (hQ2 _ _ (.inl ⟨rfl, n - 1, by omega, x.dropLast, z.dropLast, _, _, rfl, by simp, by simp, by simp; omega, by omega, by simp; omega, by simp; omega, by simp; omega, ?_, ⟨m2, .inr ⟨c, x.length - 1, cap, rfl, by omega, rm.cut (by omega), rx c (by simp [AVal.blks])⟩⟩, fun _ => ⟨c, x.length - 1, cap, rfl, by simp, by omega⟩, fun b hb => rx b (by simpa [AVal.blks] using hb), m2', fun _ => ⟨c', z.length - 1, cap', rfl, by simp, by omega⟩, fun b hb => rz b (by simpa [AVal.blks] using hb)⟩))
          obtain ⟨k, rfl⟩ : ∃ k, n = k + 1 := ⟨n - 1, by omega⟩
          rw [← ht]
          conv => rhs; unfold trim
          rw [if_pos ⟨h1, h2, by rw [hu, hw, heq]⟩]
          rfl
        · simp [t7, t8, lx, lz, h1', h2', w1, w2, q1, q2, q3, k1, k2, k3, beq_eq_false_iff_ne.2 heq]
          exact Tells.ok (stop _ (by simp [t7]) (by simp [t8]) (fun hh => heq (by have := hh.2.2; rw [hu, hw] at this; simpa using this)))
      · have h2' : ¬ (1 : Int) < z.length := by omega
        simp [t7, t8, lx, lz, h1', h2']
        exact Tells.ok (stop _ (by simp [t7]) (by simp [t8]) (fun hh => h2 hh.2.1))
    · have h1' : ¬ (1 : Int) < x.length := by omega
      simp [t7, t8, lx, lz, h1']
      exact Tells.ok (stop _ (by simp [t7]) (by simp [t8]) (fun hh => h1 hh.1))
  · have form : ∀ {h0 hh : Heap} {v : AVal} {xs : List Int}, Sl intR hh v xs → (1 < xs.length → ∃ c len cap, v = .sl c 0 len cap 1 false) → 1 < xs.length → ∃ c len cap, v = .sl c 0 len cap 1 false ∧ xs.length = len ∧ len ≤ cap := by
      intro h0 hh v xs o f hl
      obtain ⟨c, len, cap, rfl⟩ := f hl
      have e1 := o.len
      have e2 : lenL (.sl c 0 len cap 1 false) = some (I len) := rfl
      rw [e2] at e1
      simp at e1
      obtain ⟨css, s, _⟩ := o
      rcases s with ⟨q, _⟩ | ⟨b2, off2, cap2, sz2, ex2, B2, q, o2, o3, _⟩
      · cases q
      · cases q
        exact ⟨c, _, cap, rfl, by omega, o3⟩
    exact ⟨xs, zs, va, vb, rfl, by simp, by simp, by omega, Nat.le_refl _, la.1, lb.1, by omega, hT, apa, form (h0 := h) ga2.1 fa, fun b hb => by have := (wa b hb).2.2; have := root_le h2 b; omega, gb.1, form (h0 := h) gb.1 fb, fun b hb => (wb b hb).1⟩
  · rintro ⟨ex, t⟩ g ⟨rfl, rfl, ap, sq, l1, l9, rz⟩
    simp only at ap sq rz
    generalize hp : t 7 = p at ap
    generalize hq : t 8 = q at sq rz
    have w0 : IntKind.i64.wrap ((T0.2.length : Int) - 2) = (T0.2.length : Int) - 2 := wrap_id (by omega) (by omega)
    simp [J_tree_path_0, hq, sq.len, w0]
    refine Tells.bind (Tells.loop (fun n t g' => ∃ p : AVal, t 7 = p ∧ t 8 = q ∧ t 9 = I ((n : Int) - 1) ∧ n ≤ T0.2.length - 1 ∧ Ap h g' h1.next p (T0.1 ++ (T0.2.dropLast.drop n).reverse) ∧ Sl intR g' q T0.2 ∧ (∀ b, b ∈ q.blks → h1.next ≤ g'.root b) ∧ Ext [] h g')
      (Q := fun r g' => r.1 = .exit 2 ∧ Sl intR g' (r.2 7) (pathF ys a b) ∧ Ext [] h g') ?_ (T0.2.length - 1) _ _ ?_) ?_
    · rintro n t g' ⟨p, t7, t8, t9, nl, ap, sq, rz, x⟩
      refine Tells.prot fun Q2 hQ2 => ?_
      unfold L_tree_path_2
      by_cases hn : 0 < n
      · have hn' : (0 : Int) ≤ (n : Int) - 1 := by omega
        obtain ⟨y, hy⟩ : ∃ y, T0.2[n - 1]? = some y := ⟨_, List.getElem?_eq_getElem (by omega)⟩
        obtain ⟨b1, p1, B1, q1, q2, q3⟩ := sq.atI hy
        have e1 : ((n - 1 : Nat) : Int) = (n : Int) - 1 := by omega
        rw [e1] at q1
        have w1 : IntKind.i64.wrap ((n : Int) - 1 - 1) = (n : Int) - 1 - 1 := wrap_id (by omega) (by omega)
        have hT1 : T0.1.length ≤ 9 := by have := trim_len1 9 xs zs; rw [hT] at this; omega
        have hdl : (T0.2.dropLast.drop n).length ≤ 9 := by simp; omega
        have hd : T0.2.dropLast.drop (n - 1) = y :: T0.2.dropLast.drop n := by
          have hlt : n - 1 < T0.2.dropLast.length := by simp; omega
          rw [List.drop_eq_getElem_cons hlt, show n - 1 + 1 = n by omega]
          congr 1
          rw [List.getElem_dropLast]
          exact (List.getElem?_eq_some_iff.1 hy).2
        simp [t9, show (1 : Int) ≤ n by omega, J_tree_path_3, t7, t8, q1, q2, q3]
        refine apOne ap (by rw [List.length_append, List.length_reverse]; omega) x.next fun s3 g3 a3 y3 f3 => ?_
        obtain ⟨sq3, rz3⟩ := f3 q T0.2 sq rz
        simp [J_tree_path_4, t9, w1]
        refine Tells.ok (hQ2 _ _ (.inl ⟨rfl, n - 1, by omega, s3, by simp, by simp [t8], by simp; omega, by omega, ?_, sq3, rz3, y3 [] x⟩))
        rw [hd]
        simpa [List.append_assoc] using a3
      · have hn' : ¬ (0 : Int) ≤ (n : Int) - 1 := by omega
        have : n = 0 := by omega
        subst this
        simp [t9]
        refine Tells.ok (hQ2 _ _ (.inr ⟨by simp, rfl, ?_, x⟩))
        rw [hpath]
        simpa [t7] using ap.1
    · refine ⟨p, by simp [hp], by simp [hq], ?_, Nat.le_refl _, ?_, sq, rz, x12⟩
      · simp; omega
      · rw [List.drop_eq_nil_of_le (by simp)]
        simpa using ap
    · rintro ⟨ex, t⟩ g' ⟨rfl, sl, x⟩
      simp only at sl
      simp [J_tree_path_1]
      exact Tells.ok (hQ _ _ ⟨sl, x⟩)
end
end Go.Proofs.Ytchmlbjjadlleaa

/-! What tree.Right and precentorref9.RightTree tell. -/
namespace Go.Proofs.Ytchmlbjjadlleaa
open Go.Ab

def rightFrom : Nat → List Int → Bool
  | _, [] => true
  | i, x :: r => (decide (0 ≤ x) && decide (x ≤ i)) && rightFrom (i + 1) r
/-- Are these the parents of a tree's brokers? -/
def rightT (xs : List Int) : Bool := rightFrom 0 xs && decide (xs.length ≤ 7)

theorem rightFrom_all : ∀ (xs : List Int) (n : Nat), rightFrom n xs = true ↔ ∀ (i : Nat) x, xs[i]? = some x → 0 ≤ x ∧ x ≤ ((n + i : Nat) : Int)
  | [], n => by simp [rightFrom]
  | y :: r, n => by
    simp only [rightFrom, Bool.and_eq_true, decide_eq_true_eq, rightFrom_all r (n + 1)]
    constructor
    · rintro ⟨⟨a, b⟩, c⟩ i x hx
      cases i with
      | zero => simp at hx; subst hx; exact ⟨a, by omega⟩
      | succ i => have := c i x (by simpa using hx); exact ⟨this.1, by omega⟩
    · intro k
      refine ⟨?_, fun i x hx => ?_⟩
      · have := k 0 y rfl; exact ⟨this.1, by omega⟩
      · have := k (i + 1) x (by simpa using hx); exact ⟨this.1, by omega⟩
theorem rightFrom_drop {xs : List Int} {i : Nat} {x : Int} (hx : xs[i]? = some x) : rightFrom i (xs.drop i) = ((decide (0 ≤ x) && decide (x ≤ i)) && rightFrom (i + 1) (xs.drop (i + 1))) := by
  have hlt : i < xs.length := (List.getElem?_eq_some_iff.1 hx).1
  rw [List.drop_eq_getElem_cons hlt]
  have : xs[i] = x := (List.getElem?_eq_some_iff.1 hx).2
  rw [this]
  rfl

section
variable {X : XTab}

theorem Right (hX : OnlyKnown X) {h : Heap} {v : AVal} {xs : List Int} (o : Sl intR h v xs) (hl : xs.length < 2 ^ 62) :
    Tells (fun q => acallX Try.prog X q F_tree_Right [v] h) fun r h' => r = .bool (rightT xs) ∧ h' = h := by
  refine R_tree_Right _ (hX _ _ rfl) ?_
  unfold S_tree_Right
  simp [o.len]
  refine Tells.bind (Tells.loop (fun n t g => ∃ i : Nat, t 0 = v ∧ t 5 = v ∧ t 6 = I xs.length ∧ t 7 = I i ∧ i + n = xs.length ∧ rightFrom 0 xs = rightFrom i (xs.drop i) ∧ g = h)
      (Q := fun p g => g = h ∧ ((p.1 = .exit 0 ∧ rightFrom 0 xs = true ∧ p.2 0 = v) ∨ (p.1 = .ret ∧ rightFrom 0 xs = false ∧ p.2 2 = .bool false))) ?_ xs.length _ _ ?_) ?_
  · rintro n t g ⟨i, t0, t5, t6, t7, hi, hr, rfl⟩
    refine Tells.prot fun Q' hQ => ?_
    unfold L_tree_Right_1
    simp [t6, t7]
    refine Tells.cb (fun hc => ?_) (fun hc => ?_)
    · simp at hc
      obtain ⟨x, hx⟩ : ∃ x, xs[i]? = some x := ⟨_, List.getElem?_eq_getElem hc⟩
      obtain ⟨b, p, cs, a1, a2, a3⟩ := o.atI hx
      have hd := rightFrom_drop hx
      simp [J_tree_Right_2, t5, t7, a1, a2, a3]
      by_cases h1 : x < 0
      · simp [h1]
        exact Tells.ok (hQ _ _ (.inr ⟨by simp, rfl, .inr ⟨rfl, by rw [hr, hd]; simp; omega, by simp⟩⟩))
      · simp [h1]
        refine Tells.cb (fun hc2 => ?_) (fun hc2 => ?_)
        · simp at hc2
          exact Tells.ok (hQ _ _ (.inr ⟨by simp, rfl, .inr ⟨rfl, by rw [hr, hd]; simp; omega, by simp⟩⟩))
        · simp at hc2
          have w : IntKind.i64.wrap ((i : Int) + 1) = ((i + 1 : Nat) : Int) := by rw [wrap_id (by omega) (by omega)]; omega
          simp [J_tree_Right_3, t7, w]
          refine Tells.ok (hQ _ _ (.inl ⟨rfl, n - 1, by omega, i + 1, by simp [t0], by simp [t5], by simp [t6], by simp, by omega, ?_, rfl⟩))
          rw [hr, hd]
          have e1 : decide (0 ≤ x) = true := by simp; omega
          have e2 : decide (x ≤ (i : Int)) = true := by simp; omega
          rw [e1, e2]; rfl
    · simp at hc
      refine Tells.ok (hQ _ _ (.inr ⟨by simp, rfl, .inl ⟨rfl, ?_, by simp [t0]⟩⟩))
      rw [hr, List.drop_eq_nil_of_le (by omega)]; rfl
  · exact ⟨0, by simp, by simp, by simp, by simp, by omega, by simp, rfl⟩
  · rintro ⟨ex, t⟩ g ⟨rfl, q | q⟩
    · obtain ⟨rfl, q1, q2⟩ := q
      simp at q2
      simp [J_tree_Right_0, q2, o.len]
      refine Tells.ok ⟨?_, rfl⟩
      simp [rightT, q1]
      omega
    · obtain ⟨rfl, q1, q2⟩ := q
      simp at q2
      simp [q2]
      exact Tells.ok ⟨by simp [rightT, q1], rfl⟩

theorem RightTree (hX : OnlyKnown X) {h : Heap} {v : AVal} {xs : List Int} (o : Sl intR h v xs) (hl : xs.length < 2 ^ 62) :
    Tells (fun q => acallX Try.prog X q F_precentorref9_RightTree [v] h) fun r h' => r = .bool (rightT xs) ∧ h' = h := by
  refine R_precentorref9_RightTree _ (hX _ _ rfl) ?_
  unfold S_precentorref9_RightTree
  simp
  refine Tells.bind (Tells.loop (fun n t g => ∃ i : Nat, t 0 = v ∧ t 3 = I i ∧ i + n = xs.length ∧ rightFrom 0 xs = rightFrom i (xs.drop i) ∧ g = h)
      (Q := fun p g => g = h ∧ ((p.1 = .exit 0 ∧ rightFrom 0 xs = true ∧ p.2 0 = v) ∨ (p.1 = .ret ∧ rightFrom 0 xs = false ∧ p.2 2 = .bool false))) ?_ xs.length _ _ ?_) ?_
  · rintro n t g ⟨i, t0, t7, hi, hr, rfl⟩
    refine Tells.prot fun Q' hQ => ?_
    unfold L_precentorref9_RightTree_1
    simp [t0, t7, o.len]
    refine Tells.cb (fun hc => ?_) (fun hc => ?_)
    · simp at hc
      obtain ⟨x, hx⟩ : ∃ x, xs[i]? = some x := ⟨_, List.getElem?_eq_getElem hc⟩
      obtain ⟨b, p, cs, a1, a2, a3⟩ := o.atI hx
      have hd := rightFrom_drop hx
      simp [J_precentorref9_RightTree_2, t0, t7, a1, a2, a3]
      by_cases h1 : x < 0
      · simp [h1]
        exact Tells.ok (hQ _ _ (.inr ⟨by simp, rfl, .inr ⟨rfl, by rw [hr, hd]; simp; omega, by simp⟩⟩))
      · simp [h1, t0, t7, a1, a2, a3]
        refine Tells.cb (fun hc2 => ?_) (fun hc2 => ?_)
        · simp at hc2
          exact Tells.ok (hQ _ _ (.inr ⟨by simp, rfl, .inr ⟨rfl, by rw [hr, hd]; simp; omega, by simp⟩⟩))
        · simp at hc2
          have w : IntKind.i64.wrap ((i : Int) + 1) = ((i + 1 : Nat) : Int) := by rw [wrap_id (by omega) (by omega)]; omega
          simp [J_precentorref9_RightTree_3, t7, w]
          refine Tells.ok (hQ _ _ (.inl ⟨rfl, n - 1, by omega, i + 1, by simp [t0], by simp, by omega, ?_, rfl⟩))
          rw [hr, hd]
          have e1 : decide (0 ≤ x) = true := by simp; omega
          have e2 : decide (x ≤ (i : Int)) = true := by simp; omega
          rw [e1, e2]; rfl
    · simp at hc
      refine Tells.ok (hQ _ _ (.inr ⟨by simp, rfl, .inl ⟨rfl, ?_, by simp [t0]⟩⟩))
      rw [hr, List.drop_eq_nil_of_le (by omega)]; rfl
  · exact ⟨0, by simp, by simp, by omega, by simp, rfl⟩
  · rintro ⟨ex, t⟩ g ⟨rfl, q | q⟩
    · obtain ⟨rfl, q1, q2⟩ := q
      simp at q2
      simp [J_precentorref9_RightTree_0, q2, o.len]
      refine Tells.ok ⟨?_, rfl⟩
      simp [rightT, q1]
      omega
    · obtain ⟨rfl, q1, q2⟩ := q
      simp at q2
      simp [q2]
      exact Tells.ok ⟨by simp [rightT, q1], rfl⟩

end
end Go.Proofs.Ytchmlbjjadlleaa

/-! What tree.is tells. -/
namespace Go.Proofs.Ytchmlbjjadlleaa
open Go.Ab

/-- Is there such a broker? -/
def isT (ys : List Int) (b : Int) : Bool := rightT ys && decide (0 ≤ b) && decide (b ≤ ys.length)
theorem isT_ok {ys : List Int} {b : Int} (h : isT ys b = true) : TreeOk ys ∧ ys.length ≤ 7 ∧ 0 ≤ b ∧ b ≤ ys.length := by
  unfold isT rightT at h
  simp only [Bool.and_eq_true, decide_eq_true_eq] at h
  refine ⟨fun i y hy => ?_, h.1.1.2, h.1.2, h.2⟩
  have := (rightFrom_all ys 0).1 h.1.1.1 i y hy
  simpa using this
theorem pathF_len (ys : List Int) (a b : Int) : (pathF ys a b).length ≤ a.toNat + b.toNat + 2 := by
  unfold pathF
  have h1 := trim_len1 9 (upF ys a) (upF ys b)
  have h2 := trim_len 9 (upF ys a) (upF ys b)
  have h3 := (upN_len a.toNat ys a).2
  have h4 := (upN_len b.toNat ys b).2
  change (upF ys a).length ≤ _ at h3
  change (upF ys b).length ≤ _ at h4
  simp
  omega
def distF (ys : List Int) (a b : Int) : Int := if isT ys a = true ∧ isT ys b = true then ((pathF ys a b).length : Int) - 1 else -1

section
variable {X : XTab}

theorem tree_is (hX : OnlyKnown X) {h : Heap} {v : AVal} {ys : List Int} (o : Sl intR h v ys) (hl : ys.length < 2 ^ 62) (b : Int) :
    Tells (fun q => acallX Try.prog X q F_tree_is [v, I b] h) fun r h' => r = .bool (isT ys b) ∧ h' = h := by
  refine R_tree_is _ _ (hX _ _ rfl) ?_
  refine Tells.prot fun Q' hQ => ?_
  unfold S_tree_is
  simp
  refine Tells.bind (Right hX o hl) ?_
  rintro _ h ⟨rfl, rfl⟩
  cases hr : rightT ys with
  | false =>
    simp
    exact Tells.ok (hQ _ _ ⟨by simp [isT, hr], rfl⟩)
  | true =>
    by_cases h1 : 0 ≤ b
    · simp [h1, o.len]
      exact Tells.ok (hQ _ _ ⟨by simp [isT, hr, h1], rfl⟩)
    · simp [h1]
      exact Tells.ok (hQ _ _ ⟨by simp [isT, hr, h1], rfl⟩)
end
end Go.Proofs.Ytchmlbjjadlleaa

/-! The plain theory of ways in a tree: what pathF tells. -/
namespace Go.Proofs.Ytchmlbjjadlleaa
open Go.Ab

def parF (ys : List Int) (a : Int) : Int := ys[(a - 1).toNat]?.getD 0

section
variable {ys : List Int} (ok : TreeOk ys)
include ok

theorem par_lt {a : Int} (h0 : 0 < a) (hl : a ≤ ys.length) : 0 ≤ parF ys a ∧ parF ys a < a := by
  have hlt : (a - 1).toNat < ys.length := by omega
  have e : ys[(a - 1).toNat]? = some ys[(a - 1).toNat] := List.getElem?_eq_getElem hlt
  have := ok _ _ e
  unfold parF
  rw [e, Option.getD_some]
  omega
theorem U_cons {a : Int} (h0 : 0 < a) (hl : a ≤ ys.length) : upF ys a = a :: upF ys (parF ys a) := by
  have hlt : (a - 1).toNat < ys.length := by omega
  have e : ys[(a - 1).toNat]? = some ys[(a - 1).toNat] := List.getElem?_eq_getElem hlt
  have := upF_step ok h0 hl e
  rw [this]
  unfold parF
  rw [e, Option.getD_some]
omit ok in
theorem U_zero : upF ys 0 = [0] := rfl
theorem U_head (a : Int) (h0 : 0 ≤ a) (hl : a ≤ ys.length) : ∃ t, upF ys a = a :: t := by
  by_cases h : 0 < a
  · exact ⟨_, U_cons ok h hl⟩
  · have : a = 0 := by omega
    subst this
    exact ⟨[], rfl⟩
theorem U_suffix : ∀ (x : List Int) (a c : Int) (t : List Int), 0 ≤ a → a ≤ ys.length → upF ys a = x ++ c :: t → c :: t = upF ys c ∧ 0 ≤ c ∧ c ≤ a
  | [], a, c, t, h0, hl, e => by
    obtain ⟨t', e'⟩ := U_head ok a h0 hl
    rw [e'] at e
    simp at e
    obtain ⟨rfl, rfl⟩ := e
    exact ⟨e'.symm, h0, by omega⟩
  | z :: x, a, c, t, h0, hl, e => by
    by_cases h : 0 < a
    · rw [U_cons ok h hl] at e
      simp at e
      obtain ⟨q1, q2⟩ := par_lt ok h hl
      obtain ⟨k1, k2, k3⟩ := U_suffix x (parF ys a) c t q1 (by omega) e.2
      exact ⟨k1, k2, by omega⟩
    · have : a = 0 := by omega
      subst this
      rw [U_zero] at e
      simp at e
theorem U_last : ∀ (k : Nat) (a : Int), a ≤ k → 0 ≤ a → a ≤ ys.length → ∃ z, upF ys a = z ++ [0]
  | 0, a, h, h0, _ => by
    have : a = 0 := by omega
    subst this
    exact ⟨[], rfl⟩
  | k + 1, a, h, h0, hl => by
    by_cases p : 0 < a
    · obtain ⟨q1, q2⟩ := par_lt ok p hl
      obtain ⟨z, hz⟩ := U_last k (parF ys a) (by omega) q1 (by omega)
      exact ⟨a :: z, by rw [U_cons ok p hl, hz]; rfl⟩
    · have : a = 0 := by omega
      subst this
      exact ⟨[], rfl⟩

/-- Where two ways to the root meet. -/
structure Meet (ys : List Int) (a b : Int) (x y : List Int) (c : Int) : Prop where
  ea : upF ys a = x ++ upF ys c
  eb : upF ys b = y ++ upF ys c
  c0 : 0 ≤ c
  cl : c ≤ ys.length
  ne : x = [] ∨ y = [] ∨ x.getLast? ≠ y.getLast?

omit ok in
theorem Meet.symm {a b c : Int} {x y : List Int} (m : Meet ys a b x y c) : Meet ys b a y x c := ⟨m.eb, m.ea, m.c0, m.cl, by
  rcases m.ne with h | h | h
  · exact .inr (.inl h)
  · exact .inl h
  · exact .inr (.inr fun q => h q.symm)⟩

omit ok in
theorem second_last {x : List Int} {c : Int} (h : 1 < (x ++ [c]).length) : (x ++ [c])[(x ++ [c]).length - 2]? = x.getLast? := by
  simp at h
  have : (x ++ [c]).length - 2 = x.length - 1 := by simp
  rw [this, List.getElem?_append_left (by omega), List.getLast?_eq_getElem?]

omit ok in
theorem trim_spec : ∀ (k : Nat) (x y : List Int) (c : Int), x.length ≤ k → ∃ x' y' c' t, x ++ [c] = x' ++ c' :: t ∧ y ++ [c] = y' ++ c' :: t ∧ trim k (x ++ [c]) (y ++ [c]) = (x' ++ [c'], y' ++ [c']) ∧ (x' = [] ∨ y' = [] ∨ x'.getLast? ≠ y'.getLast?)
  | 0, x, y, c, h => by
    have : x = [] := List.eq_nil_of_length_eq_zero (by omega)
    exact ⟨x, y, c, [], rfl, rfl, rfl, .inl this⟩
  | k + 1, x, y, c, h => by
    unfold trim
    by_cases hc : 1 < (x ++ [c]).length ∧ 1 < (y ++ [c]).length ∧ (x ++ [c])[(x ++ [c]).length - 2]? = (y ++ [c])[(y ++ [c]).length - 2]?
    · rw [if_pos hc]
      obtain ⟨h1, h2, h3⟩ := hc
      rw [second_last h1, second_last h2] at h3
      simp at h1 h2
      obtain ⟨x1, d, rfl⟩ : ∃ x1 d, x = x1 ++ [d] := ⟨x.dropLast, x.getLast (by intro q; simp [q] at h1), (List.dropLast_concat_getLast _).symm⟩
      obtain ⟨y1, e, rfl⟩ : ∃ y1 e, y = y1 ++ [e] := ⟨y.dropLast, y.getLast (by intro q; simp [q] at h2), (List.dropLast_concat_getLast _).symm⟩
      simp at h3
      subst h3
      rw [List.dropLast_concat, List.dropLast_concat]
      obtain ⟨x', y', c', t, e1, e2, e3, e4⟩ := trim_spec k x1 y1 d (by simp at h; omega)
      exact ⟨x', y', c', t ++ [c], by rw [e1]; simp, by rw [e2]; simp, e3, e4⟩
    · rw [if_neg hc]
      refine ⟨x, y, c, [], rfl, rfl, rfl, ?_⟩
      by_cases h1 : x = []
      · exact .inl h1
      · by_cases h2 : y = []
        · exact .inr (.inl h2)
        · refine .inr (.inr fun q => hc ?_)
          have l1 : 0 < x.length := by cases x with | nil => exact absurd rfl h1 | cons => simp
          have l2 : 0 < y.length := by cases y with | nil => exact absurd rfl h2 | cons => simp
          have g1 : 1 < (x ++ [c]).length := by simp; omega
          have g2 : 1 < (y ++ [c]).length := by simp; omega
          exact ⟨g1, g2, by rw [second_last g1, second_last g2, q]⟩

/-- The way, by where they meet. -/
theorem path_meet (h7 : ys.length ≤ 7) {a b : Int} (a0 : 0 ≤ a) (al : a ≤ ys.length) (b0 : 0 ≤ b) (bl : b ≤ ys.length) : ∃ x y c, Meet ys a b x y c ∧ pathF ys a b = x ++ c :: y.reverse := by
  obtain ⟨z, hz⟩ := U_last ok a.toNat a (by omega) a0 al
  obtain ⟨u, hu⟩ := U_last ok b.toNat b (by omega) b0 bl
  have la := (upN_len a.toNat ys a).2
  change (upF ys a).length ≤ _ at la
  rw [hz] at la
  simp at la
  obtain ⟨x, y, c, t, e1, e2, e3, e4⟩ := trim_spec 9 z u 0 (by omega)
  obtain ⟨k1, k2, k3⟩ := U_suffix ok x a c t a0 al (by rw [hz, e1])
  refine ⟨x, y, c, ⟨by rw [hz, e1, k1], by rw [hu, e2, k1], k2, by omega, e4⟩, ?_⟩
  unfold pathF
  rw [hz, hu, e3]
  simp

theorem U_inj {a b : Int} (a0 : 0 ≤ a) (al : a ≤ ys.length) (b0 : 0 ≤ b) (bl : b ≤ ys.length) (h : upF ys a = upF ys b) : a = b := by
  obtain ⟨t, e⟩ := U_head ok a a0 al
  obtain ⟨u, e'⟩ := U_head ok b b0 bl
  rw [e, e'] at h
  simp at h
  exact h.1

theorem Meet.uniq {a b c c2 : Int} {x y x2 y2 : List Int} (m : Meet ys a b x y c) (m2 : Meet ys a b x2 y2 c2) : x = x2 ∧ y = y2 ∧ c = c2 := by
  have e1 := m.ea.symm.trans m2.ea
  have e2 := m.eb.symm.trans m2.eb
  -- the shorter rest is an end of the longer one
  have key : ∀ {x y x2 y2 : List Int} {c c2 : Int}, x ++ upF ys c = x2 ++ upF ys c2 → y ++ upF ys c = y2 ++ upF ys c2 → x2.length ≤ x.length → (x = [] ∨ y = [] ∨ x.getLast? ≠ y.getLast?) → x = x2 := by
    intro x y x2 y2 c c2 e1 e2 hl hne
    obtain ⟨z, hz⟩ : ∃ z, x = x2 ++ z := by
      have : x2 <+: x ++ upF ys c := ⟨upF ys c2, e1.symm⟩
      exact (List.prefix_of_prefix_length_le this (List.prefix_append _ _) hl).imp fun _ q => q.symm
    subst hz
    rw [List.append_assoc, List.append_cancel_left_eq] at e1
    rw [← e1, ← List.append_assoc, List.append_cancel_right_eq] at e2
    subst e2
    cases z with
    | nil => simp
    | cons d r =>
      exfalso
      rcases hne with h | h | h
      · simp at h
      · simp at h
      · apply h; simp [List.getLast?_append, List.getLast?_cons]
  have hx : x = x2 := by
    rcases Nat.le_total x2.length x.length with h | h
    · exact key e1 e2 h m.ne
    · exact (key e1.symm e2.symm h m2.ne).symm
  subst hx
  rw [List.append_cancel_left_eq] at e1
  have hc := U_inj ok m.c0 m.cl m2.c0 m2.cl e1
  subst hc
  rw [List.append_cancel_right_eq] at e2
  exact ⟨rfl, e2, rfl⟩

theorem path_of (h7 : ys.length ≤ 7) {a b c : Int} {x y : List Int} (a0 : 0 ≤ a) (al : a ≤ ys.length) (b0 : 0 ≤ b) (bl : b ≤ ys.length) (m : Meet ys a b x y c) : pathF ys a b = x ++ c :: y.reverse := by
  obtain ⟨x2, y2, c2, m2, e⟩ := path_meet ok h7 a0 al b0 bl
  obtain ⟨rfl, rfl, rfl⟩ := m.uniq ok m2
  exact e

theorem path_symm (h7 : ys.length ≤ 7) {a b : Int} (a0 : 0 ≤ a) (al : a ≤ ys.length) (b0 : 0 ≤ b) (bl : b ≤ ys.length) : pathF ys b a = (pathF ys a b).reverse := by
  obtain ⟨x, y, c, m, e⟩ := path_meet ok h7 a0 al b0 bl
  rw [e, path_of ok h7 b0 bl a0 al m.symm]
  simp

theorem path_mem (h7 : ys.length ≤ 7) {a b v : Int} (a0 : 0 ≤ a) (al : a ≤ ys.length) (b0 : 0 ≤ b) (bl : b ≤ ys.length) (h : v ∈ pathF ys a b) : 0 ≤ v ∧ v ≤ ys.length := by
  have mem : ∀ {a : Int}, 0 ≤ a → a ≤ ys.length → v ∈ upF ys a → 0 ≤ v ∧ v ≤ ys.length := by
    intro a a0 al hv
    obtain ⟨s, t, e⟩ := List.append_of_mem hv
    obtain ⟨_, q1, q2⟩ := U_suffix ok s a v t a0 al e
    exact ⟨q1, by omega⟩
  obtain ⟨x, y, c, m, e⟩ := path_meet ok h7 a0 al b0 bl
  rw [e] at h
  simp at h
  rcases h with h | h | h
  · exact mem a0 al (by rw [m.ea]; simp [h])
  · subst h; exact ⟨m.c0, m.cl⟩
  · exact mem b0 bl (by rw [m.eb]; simp [h])

/-- A way's beginning is the way to there. -/
theorem path_left (h7 : ys.length ≤ 7) {a b v : Int} {l1 l2 : List Int} (a0 : 0 ≤ a) (al : a ≤ ys.length) (b0 : 0 ≤ b) (bl : b ≤ ys.length) (h : pathF ys a b = l1 ++ v :: l2) : pathF ys a v = l1 ++ [v] := by
  obtain ⟨v0, vl⟩ := path_mem ok h7 a0 al b0 bl (v := v) (by rw [h]; simp)
  obtain ⟨x, y, c, m, e⟩ := path_meet ok h7 a0 al b0 bl
  rw [h] at e
  obtain ⟨tc, hc⟩ := U_head ok c m.c0 m.cl
  rcases List.append_eq_append_iff.1 e with ⟨z, e1, e2⟩ | ⟨z, e1, e2⟩
  · -- x = l1 ++ z, v :: l2 = z ++ c :: y.reverse
    cases z with
    | nil =>
      simp at e1 e2
      obtain ⟨rfl, rfl⟩ := e2
      subst e1
      rw [path_of ok h7 a0 al v0 vl (x := x) (y := []) (c := v) ⟨m.ea, by simp, m.c0, m.cl, .inr (.inl rfl)⟩]
      simp
    | cons d z =>
      simp at e2
      obtain ⟨rfl, e2⟩ := e2
      subst e1
      have hs : upF ys a = l1 ++ v :: (z ++ upF ys c) := by rw [m.ea]; simp
      obtain ⟨k1, _, _⟩ := U_suffix ok l1 a v _ a0 al hs
      rw [path_of ok h7 a0 al v0 vl (x := l1) (y := []) (c := v) ⟨by rw [hs, k1], by simp, v0, vl, .inr (.inl rfl)⟩]
      simp
  · -- l1 = x ++ z, c :: y.reverse = z ++ v :: l2
    cases z with
    | nil =>
      simp at e1 e2
      obtain ⟨rfl, rfl⟩ := e2
      subst e1
      rw [path_of ok h7 a0 al m.c0 m.cl (x := l1) (y := []) (c := c) ⟨m.ea, by simp, m.c0, m.cl, .inr (.inl rfl)⟩]
      simp
    | cons d z =>
      simp at e2
      obtain ⟨rfl, e2⟩ := e2
      subst e1
      have hy : y = l2.reverse ++ v :: z.reverse := by
        have := congrArg List.reverse e2
        simpa using this
      have hs : upF ys b = l2.reverse ++ v :: (z.reverse ++ upF ys c) := by rw [m.eb, hy]; simp
      obtain ⟨k1, _, _⟩ := U_suffix ok l2.reverse b v _ b0 bl hs
      rw [path_of ok h7 a0 al v0 vl (x := x) (y := v :: z.reverse) (c := c) ⟨m.ea, by rw [← k1]; simp, m.c0, m.cl, by
        rcases m.ne with q | q | q
        · exact .inl q
        · rw [hy] at q; simp at q
        · refine .inr (.inr ?_)
          rw [hy, List.getLast?_append, List.getLast?_cons] at q
          rw [List.getLast?_cons]
          simpa using q⟩]
      simp
/-- A way's end is the way from there. -/
theorem path_right (h7 : ys.length ≤ 7) {a b v : Int} {l1 l2 : List Int} (a0 : 0 ≤ a) (al : a ≤ ys.length) (b0 : 0 ≤ b) (bl : b ≤ ys.length) (h : pathF ys a b = l1 ++ v :: l2) : pathF ys v b = v :: l2 := by
  obtain ⟨v0, vl⟩ := path_mem ok h7 a0 al b0 bl (v := v) (by rw [h]; simp)
  have e : pathF ys b a = l2.reverse ++ v :: l1.reverse := by rw [path_symm ok h7 a0 al b0 bl, h]; simp
  have := path_left ok h7 b0 bl a0 al e
  rw [path_symm ok h7 b0 bl v0 vl, this]
  simp

theorem path_self (h7 : ys.length ≤ 7) {a : Int} (a0 : 0 ≤ a) (al : a ≤ ys.length) : pathF ys a a = [a] := by
  rw [path_of ok h7 a0 al a0 al (x := []) (y := []) (c := a) ⟨by simp, by simp, a0, al, .inl rfl⟩]
  simp

theorem path_cons (h7 : ys.length ≤ 7) {a b : Int} (a0 : 0 ≤ a) (al : a ≤ ys.length) (b0 : 0 ≤ b) (bl : b ≤ ys.length) : ∃ t, pathF ys a b = a :: t := by
  obtain ⟨x, y, c, m, e⟩ := path_meet ok h7 a0 al b0 bl
  obtain ⟨t, ht⟩ := U_head ok a a0 al
  cases x with
  | nil =>
    have : c = a := U_inj ok m.c0 m.cl a0 al (by have := m.ea; simpa using this.symm)
    subst this
    exact ⟨_, by rw [e]; rfl⟩
  | cons d x =>
    have := m.ea
    rw [ht] at this
    simp at this
    rw [e, this.1]
    exact ⟨_, rfl⟩
theorem path_one (h7 : ys.length ≤ 7) {a b : Int} (a0 : 0 ≤ a) (al : a ≤ ys.length) (b0 : 0 ≤ b) (bl : b ≤ ys.length) (h : pathF ys a b = [a]) : a = b := by
  have := path_symm ok h7 a0 al b0 bl
  rw [h] at this
  obtain ⟨t, ht⟩ := path_cons ok h7 b0 bl a0 al
  rw [ht] at this
  simp at this
  exact this.1.symm
theorem path_ne (h7 : ys.length ≤ 7) {a b : Int} (a0 : 0 ≤ a) (al : a ≤ ys.length) (b0 : 0 ≤ b) (bl : b ≤ ys.length) (h : a ≠ b) : ∃ v t, pathF ys a b = a :: v :: t := by
  obtain ⟨t, ht⟩ := path_cons ok h7 a0 al b0 bl
  cases t with
  | nil => exact absurd (path_one ok h7 a0 al b0 bl ht) h
  | cons v t => exact ⟨v, t, ht⟩

/-- Next to one another: the one is the other's parent. -/
theorem path_two (h7 : ys.length ≤ 7) {a v : Int} (a0 : 0 ≤ a) (al : a ≤ ys.length) (v0 : 0 ≤ v) (vl : v ≤ ys.length) : pathF ys a v = [a, v] ↔ (0 < a ∧ v = parF ys a) ∨ (0 < v ∧ a = parF ys v) := by
  constructor
  · intro h
    obtain ⟨x, y, c, m, e⟩ := path_meet ok h7 a0 al v0 vl
    rw [h] at e
    cases x with
    | nil =>
      cases y with
      | nil => simp at e
      | cons d y =>
        simp at e
        obtain ⟨rfl, e⟩ := e
        have hy : y = [] := by
          have := congrArg List.length e
          simp at this
          exact this
        subst hy
        simp at e
        subst e
        have := m.eb
        have hp : 0 < v := by
          by_cases p : 0 < v
          · exact p
          · have : v = 0 := by omega
            subst this
            rw [U_zero] at this
            obtain ⟨t, ht⟩ := U_head ok a a0 al
            rw [ht] at this
            simp at this
        rw [U_cons ok hp vl] at this
        simp at this
        obtain ⟨p1, p2⟩ := par_lt ok hp vl
        exact .inr ⟨hp, (U_inj ok p1 (by omega) a0 al this).symm⟩
    | cons d x =>
      simp at e
      obtain ⟨rfl, e⟩ := e
      have hx : x = [] ∧ y = [] := by
        have := congrArg List.length e
        simp at this
        exact ⟨List.eq_nil_of_length_eq_zero (by omega), List.eq_nil_of_length_eq_zero (by omega)⟩
      obtain ⟨rfl, rfl⟩ := hx
      simp at e
      subst e
      have := m.ea
      have hp : 0 < a := by
        by_cases p : 0 < a
        · exact p
        · have : a = 0 := by omega
          subst this
          rw [U_zero] at this
          obtain ⟨t, ht⟩ := U_head ok v v0 vl
          rw [ht] at this
          simp at this
      rw [U_cons ok hp al] at this
      simp at this
      obtain ⟨p1, p2⟩ := par_lt ok hp al
      exact .inl ⟨hp, (U_inj ok p1 (by omega) v0 vl this).symm⟩
  · rintro (⟨hp, rfl⟩ | ⟨hp, rfl⟩)
    · rw [path_of ok h7 a0 al v0 vl (x := [a]) (y := []) (c := parF ys a) ⟨by rw [U_cons ok hp al]; rfl, by simp, v0, vl, .inr (.inl rfl)⟩]
      simp
    · rw [path_of ok h7 a0 al v0 vl (x := []) (y := [v]) (c := parF ys v) ⟨by simp, by rw [U_cons ok hp vl]; rfl, a0, al, .inl rfl⟩]
      simp
end
end Go.Proofs.Ytchmlbjjadlleaa

/-! What tree.Next, Kids, Side tell. -/
namespace Go.Proofs.Ytchmlbjjadlleaa
open Go.Ab

def nextF (ys : List Int) (a b : Int) : Int := if isT ys a = true ∧ isT ys b = true ∧ a ≠ b then (pathF ys a b)[1]?.getD 0 else -1
def kidsN (b : Int) : Nat → List Int → List Int
  | _, [] => []
  | i, x :: r => if x = b then ((i : Int) + 1) :: kidsN b (i + 1) r else kidsN b (i + 1) r
def kidsF (ys : List Int) (b : Int) : List Int := if isT ys b = true then kidsN b 0 ys else []
def nearF (ys : List Int) (b : Int) : List Int := if isT ys b = true then (if 0 < b then [parF ys b] else []) ++ kidsN b 0 ys else []
/-- From x on, k more: those of which p tells true. -/
def fromN (p : Int → Bool) : Nat → Int → List Int
  | 0, _ => []
  | k + 1, x => if p x = true then x :: fromN p k (x + 1) else fromN p k (x + 1)
def sideF (ys : List Int) (b n : Int) : List Int := if 0 ≤ n then fromN (fun x => decide (nextF ys b x = n)) (ys.length + 1) 0 else []

theorem kidsN_len (b : Int) : ∀ (i : Nat) (l : List Int), (kidsN b i l).length ≤ l.length
  | _, [] => by simp [kidsN]
  | i, x :: r => by
    have := kidsN_len b (i + 1) r
    simp only [kidsN]
    split <;> simp <;> omega
theorem fromN_len (p : Int → Bool) : ∀ (k : Nat) (x : Int), (fromN p k x).length ≤ k
  | 0, _ => by simp [fromN]
  | k + 1, x => by
    have := fromN_len p k (x + 1)
    simp only [fromN]
    split <;> simp <;> omega
theorem kidsN_drop {b : Int} {ys : List Int} {i : Nat} {x : Int} (hx : ys[i]? = some x) : kidsN b i (ys.drop i) = if x = b then ((i : Int) + 1) :: kidsN b (i + 1) (ys.drop (i + 1)) else kidsN b (i + 1) (ys.drop (i + 1)) := by
  have hlt : i < ys.length := (List.getElem?_eq_some_iff.1 hx).1
  rw [List.drop_eq_getElem_cons hlt, (List.getElem?_eq_some_iff.1 hx).2]
  rfl

section
variable {X : XTab}

theorem tree_Next (hX : OnlyKnown X) {h : Heap} {v : AVal} {ys : List Int} (o : Sl intR h v ys) (hl : ys.length < 2 ^ 62) (a b : Int) :
    Tells (fun q => acallX Try.prog X q F_tree_Next [v, I a, I b] h) fun r h' => r = I (nextF ys a b) ∧ Ext [] h h' := by
  refine R_tree_Next _ _ _ (hX _ _ rfl) ?_
  refine Tells.prot fun Q' hQ => ?_
  unfold S_tree_Next
  simp
  refine Tells.bind (tree_is hX o hl a) ?_
  rintro _ h ⟨rfl, rfl⟩
  cases ha : isT ys a with
  | false =>
    simp
    exact Tells.ok (hQ _ _ ⟨by simp [nextF, ha], .refl⟩)
  | true =>
    simp
    refine Tells.bind (tree_is hX o hl b) ?_
    rintro _ h ⟨rfl, rfl⟩
    cases hb : isT ys b with
    | false =>
      simp
      exact Tells.ok (hQ _ _ ⟨by simp [nextF, hb], .refl⟩)
    | true =>
      obtain ⟨k1, k2, k3, k4⟩ := isT_ok ha
      obtain ⟨_, _, k5, k6⟩ := isT_ok hb
      by_cases hab : a = b
      · simp [hab]
        exact Tells.ok (hQ _ _ ⟨by simp [nextF, hab], .refl⟩)
      · simp [beq_eq_false_iff_ne.2 hab, J_tree_Next_0]
        refine Tells.bind (tree_path hX o k1 k2 k3 k4 k5 k6) ?_
        rintro p h1 ⟨sp, x1⟩
        obtain ⟨u, t, hp⟩ := path_ne k1 k2 k3 k4 k5 k6 hab
        obtain ⟨bb, pp, B, q1, q2, q3⟩ := sp.atI (i := 1) (x := u) (by rw [hp]; rfl)
        simp at q1
        simp [q1, q2, q3]
        exact Tells.ok (hQ _ _ ⟨by simp [nextF, ha, hb, hab, hp], x1⟩)

theorem tree_Kids (hX : OnlyKnown X) {h : Heap} {v : AVal} {ys : List Int} (o : Sl intR h v ys) (hl : ys.length < 2 ^ 32) (b : Int) :
    Tells (fun q => acallX Try.prog X q F_tree_Kids [v, I b] h) fun r h' => Gl intR h h' r (kidsF ys b) ∧ Ext [] h h' := by
  refine R_tree_Kids _ _ (hX _ _ rfl) ?_
  refine Tells.prot fun Q' hQ => ?_
  unfold S_tree_Kids
  simp
  refine Tells.bind (tree_is hX o (by omega) b) ?_
  rintro _ h ⟨rfl, rfl⟩
  cases hb : isT ys b with
  | false =>
    simp
    exact Tells.ok (hQ _ _ ⟨by simp [kidsF, hb]; exact Gl.nil, .refl⟩)
  | true =>
    simp [J_tree_Kids_0, o.len]
    refine Tells.bind (Tells.loop (fun n t g => ∃ (i : Nat) (pre : List Int), t 1 = I b ∧ t 13 = v ∧ t 14 = I ys.length ∧ t 15 = I i ∧ i + n = ys.length ∧ pre.length ≤ i ∧ kidsN b 0 ys = pre ++ kidsN b i (ys.drop i) ∧ Gl intR h g (t 5) pre ∧ Ext [] h g)
      (Q := fun p g => p.1 = .exit 0 ∧ Gl intR h g (p.2 5) (kidsN b 0 ys) ∧ Ext [] h g) ?_ ys.length _ _ ?_) ?_
    · rintro n t g ⟨i, pre, t1, t13, t14, t15, hi, pl, hk, go, x⟩
      refine Tells.prot fun Q2 hQ2 => ?_
      unfold L_tree_Kids_2
      simp [t14, t15]
      refine Tells.cb (fun hc => ?_) (fun hc => ?_)
      · simp at hc
        obtain ⟨y, hy⟩ : ∃ y, ys[i]? = some y := ⟨_, List.getElem?_eq_getElem hc⟩
        obtain ⟨bb, pp, B, q1, q2, q3⟩ := (o.ext x).atI hy
        have w : IntKind.i64.wrap ((i : Int) + 1) = i + 1 := wrap_id (by omega) (by omega)
        rw [kidsN_drop hy] at hk
        simp [J_tree_Kids_3, t13, t15, q1, q2, q3, t1]
        by_cases hyb : y = b
        · rw [if_pos hyb] at hk
          simp [hyb, w]
          refine Tells.app1 go (by rfl) (by rfl) (show intR.rep g [I (i + 1)] (i + 1) from rfl) (by rfl) (by rfl) (by omega) (by decide) x.next fun s3 h3 g3 x3 y3 z3 => ?_
          simp [J_tree_Kids_4, t15, w]
          exact Tells.ok (hQ2 _ _ (.inl ⟨rfl, n - 1, by omega, i + 1, pre ++ [(i : Int) + 1], by simp [t1], by simp [t13], by simp [t14], by simp, by omega, by simp; omega, by rw [hk]; simp, by simpa using g3, y3 [] x⟩))
        · rw [if_neg hyb] at hk
          simp [beq_eq_false_iff_ne.2 hyb, J_tree_Kids_4, t15, w]
          exact Tells.ok (hQ2 _ _ (.inl ⟨rfl, n - 1, by omega, i + 1, pre, by simp [t1], by simp [t13], by simp [t14], by simp, by omega, by omega, hk, by simpa using go, x⟩))
      · simp at hc
        rw [List.drop_eq_nil_of_le (by omega)] at hk
        exact Tells.ok (hQ2 _ _ (.inr ⟨by simp, rfl, by rw [hk]; simpa [kidsN] using go, x⟩))
    · exact ⟨0, [], by simp, by simp, by simp, by simp, by omega, by simp, by simp, by simpa using Gl.nil, .refl⟩
    · rintro ⟨ex, t⟩ g ⟨rfl, go, x⟩
      simp [J_tree_Kids_1]
      exact Tells.ok (hQ _ _ ⟨by simpa [kidsF, hb] using go, x⟩)

theorem tree_Side (hX : OnlyKnown X) {h : Heap} {v : AVal} {ys : List Int} (o : Sl intR h v ys) (hl : ys.length < 2 ^ 32) (b c : Int) :
    Tells (fun q => acallX Try.prog X q F_tree_Side [v, I b, I c] h) fun r h' => Gl intR h h' r (sideF ys b c) ∧ Ext [] h h' := by
  refine R_tree_Side _ _ _ (hX _ _ rfl) ?_
  refine Tells.prot fun Q' hQ => ?_
  unfold S_tree_Side
  simp
  generalize hP : (fun x => decide (nextF ys b x = c)) = P0
  refine Tells.bind (Tells.loop (fun n t g => ∃ (i : Nat) (pre : List Int), t 0 = v ∧ t 1 = I b ∧ t 2 = I c ∧ t 8 = I i ∧ i + n = ys.length + 1 ∧ pre.length ≤ i ∧ (0 ≤ c → fromN P0 (ys.length + 1) 0 = pre ++ fromN P0 n i) ∧ (c < 0 → pre = []) ∧ Gl intR h g (t 7) pre ∧ Ext [] h g)
      (Q := fun p g => p.1 = .exit 0 ∧ Gl intR h g (p.2 7) (sideF ys b c) ∧ Ext [] h g) ?_ (ys.length + 1) _ _ ?_) ?_
  · rintro n t g ⟨i, pre, t0, t1, t2, t8, hi, pl, hk, hneg, go, x⟩
    refine Tells.prot fun Q2 hQ2 => ?_
    have og := o.ext x
    unfold L_tree_Side_1
    by_cases h1 : i ≤ ys.length
    · have h1' : (i : Int) ≤ ys.length := by omega
      by_cases h2 : 0 ≤ c
      · have hk := hk h2
        obtain ⟨k, rfl⟩ : ∃ k, n = k + 1 := ⟨n - 1, by omega⟩
        have w : IntKind.i64.wrap ((i : Int) + 1) = i + 1 := wrap_id (by omega) (by omega)
        rw [show fromN P0 (k + 1) (i : Int) = if P0 i = true then (i : Int) :: fromN P0 k (i + 1) else fromN P0 k (i + 1) from rfl] at hk
        simp [t8, t0, og.len, h1', t2, h2, J_tree_Side_2, t1]
        refine Tells.bind (tree_Next hX og (by omega) b i) ?_
        rintro _ h2 ⟨rfl, x2⟩
        have hPi : P0 i = decide (nextF ys b i = c) := by rw [← hP]
        by_cases he : nextF ys b i = c
        · rw [hPi, if_pos (by simpa using he)] at hk
          simp [he]
          refine Tells.app1 (go.e x2) (by rfl) (by rfl) (show intR.rep h2 [I i] i from rfl) (by rfl) (by rfl) (by omega) (by decide) (x.trans x2).next fun s3 h3 g3 x3 y3 z3 => ?_
          simp [J_tree_Side_3, t8, w]
          exact Tells.ok (hQ2 _ _ (.inl ⟨rfl, k, by omega, i + 1, pre ++ [(i : Int)], by simp [t0], by simp [t1], by simp [t2], by simp, by omega, by simp; omega, fun _ => by rw [hk]; simp, fun q => by omega, by simpa using g3, y3 [] (x.trans x2)⟩))
        · rw [hPi, if_neg (by simpa using he)] at hk
          simp [beq_eq_false_iff_ne.2 he, J_tree_Side_3, t8, w]
          exact Tells.ok (hQ2 _ _ (.inl ⟨rfl, k, by omega, i + 1, pre, by simp [t0], by simp [t1], by simp [t2], by simp, by omega, by omega, fun _ => by rw [hk]; simp, fun q => by omega, by simpa using go.e x2, x.trans x2⟩))
      · simp [t8, t0, og.len, h1', t2, h2]
        have := hneg (by omega)
        subst this
        exact Tells.ok (hQ2 _ _ (.inr ⟨by simp, rfl, by simpa [sideF, h2] using go, x⟩))
    · have h1' : ¬ (i : Int) ≤ ys.length := by omega
      have : n = 0 := by omega
      subst this
      simp [t8, t0, og.len, h1']
      refine Tells.ok (hQ2 _ _ (.inr ⟨by simp, rfl, ?_, x⟩))
      by_cases h2 : 0 ≤ c
      · have hk := hk h2
        have e : sideF ys b c = pre := by
          unfold sideF
          rw [if_pos h2, hP, hk]
          simp [fromN]
        rw [e]
        simpa using go
      · have := hneg (by omega)
        subst this
        simpa [sideF, h2] using go
  · exact ⟨0, [], by simp, by simp, by simp, by simp, by omega, by simp, fun _ => by simp, fun _ => rfl, by simpa using Gl.nil, .refl⟩
  · rintro ⟨ex, t⟩ g ⟨rfl, go, x⟩
    simp [J_tree_Side_0]
    exact Tells.ok (hQ _ _ ⟨go, x⟩)
end
end Go.Proofs.Ytchmlbjjadlleaa

/-! What the functions of turn tell, at any broker of a tree. -/
namespace Go.Proofs.Ytchmlbjjadlleaa
open Go.Ab

/-- A change without a filter: gone, client, number. -/
abbrev Ch := Bool × Int × Int
def chC (c : Ch) : List AVal := [.bool c.1, I c.2.1, I 0, I c.2.2, .nils]
def chG : Rp Ch := ⟨5, by decide, fun _ cs x => cs = chC x, fun h => by rw [h]; rfl, fun h => by rw [h]; rfl, fun h _ => h⟩

/-- A broker's Turn. -/
structure TP (h : Heap) (bt bq : Nat) (root : Bool) (kv : AVal) (ks : List Int) (qs : List Bool) (ep : Int) (st rd : Bool) (pv : AVal) (cs : List Ch) : Prop where
  o : Ob h bt [.bool root, kv, .sl bq 0 ks.length ks.length 1 true, I ep, .bool st, .bool rd, pv]
  k : Sl intR h kv ks
  q : Ob h bq (qs.map .bool)
  ne : bt ≠ bq
  l : qs.length = ks.length
  g : Gl chG Heap.empty h pv cs
theorem TP.ext {S : List Nat} {h h' : Heap} {bt bq : Nat} {root : Bool} {kv pv : AVal} {ks : List Int} {qs : List Bool} {ep : Int} {st rd : Bool} {cs : List Ch} (o : TP h bt bq root kv ks qs ep st rd pv cs) (x : Ext S h h') (h1 : bt ∉ S) (h2 : bq ∉ S) (h3 : ∀ b, b ∈ pv.blks → b ∉ S) : TP h' bt bq root kv ks qs ep st rd pv cs :=
  ⟨o.o.ext x h1, o.k.ext x, o.q.ext x h2, o.ne, o.l, o.g.ext x h3⟩
theorem TP.e {h h' : Heap} {bt bq : Nat} {root : Bool} {kv pv : AVal} {ks : List Int} {qs : List Bool} {ep : Int} {st rd : Bool} {cs : List Ch} (o : TP h bt bq root kv ks qs ep st rd pv cs) (x : Ext [] h h') : TP h' bt bq root kv ks qs ep st rd pv cs :=
  o.ext x (by simp) (by simp) (by simp)
/-- Through a heap in which other objects were touched. -/
theorem TP.eo {S : List Nat} {h h' : Heap} {bt bq : Nat} {root : Bool} {kv pv : AVal} {ks : List Int} {qs : List Bool} {ep : Int} {st rd : Bool} {cs : List Ch} (o : TP h bt bq root kv ks qs ep st rd pv cs) (x : Ext S h h') (h1 : bt ∉ S) (h2 : bq ∉ S) (hs : ∀ b, b ∈ S → h.isM b = true ∨ h.next ≤ b) : TP h' bt bq root kv ks qs ep st rd pv cs :=
  ⟨o.o.ext x h1, o.k.ext x, o.q.ext x h2, o.ne, o.l, o.g.extO x hs⟩

section
variable {X : XTab} {h : Heap} {bt bq : Nat} {root : Bool} {kv pv : AVal} {ks : List Int} {qs : List Bool} {ep : Int} {st rd : Bool} {cs : List Ch}

theorem boolC (n : Nat) : zeros [.bool false] n = (List.replicate n false).map AVal.bool := by
  induction n with
  | zero => rfl
  | succ n ih => show [AVal.bool false] ++ zeros [.bool false] n = _; rw [ih]; rfl

theorem turn_New (hX : OnlyKnown X) {h : Heap} {v : AVal} {ys : List Int} (o : Sl intR h v ys) (ok : TreeOk ys) (h7 : ys.length ≤ 7) {b : Int} (b0 : 0 ≤ b) :
    Tells (fun q => acallX Try.prog X q F_turn_New [v, I b] h) fun a h' => Ext [] h h' ∧ ((b ≤ ys.length ∧ ∃ bt bq kv, a = .tup [.ptr bt 0, I 0] ∧ TP h' bt bq (b == 0) kv (kidsN b 0 ys) (List.replicate (kidsN b 0 ys).length false) 0 false false .nils [] ∧ h.next ≤ bt ∧ h.next ≤ bq) ∨ (ys.length < b ∧ a = .tup [.nilp, I 4])) := by
  refine R_turn_New _ _ (hX _ _ rfl) ?_
  refine Tells.prot fun Q' hQ => ?_
  have hr : rightT ys = true := by
    unfold rightT
    simp only [Bool.and_eq_true, decide_eq_true_eq]
    refine ⟨(rightFrom_all ys 0).2 fun i z hz => ?_, h7⟩
    have := ok i z hz
    simpa using this
  unfold S_turn_New
  try simp
  refine Tells.bind (Right hX o (by omega)) ?_
  rintro _ h ⟨rfl, rfl⟩
  simp [hr, show ¬ b < 0 by omega, o.len]
  refine Tells.cb (fun hc => ?_) (fun hc => ?_)
  · simp at hc
    try simp
    exact Tells.ok (hQ _ _ ⟨.refl, .inr ⟨hc, rfl⟩⟩)
  · simp at hc
    have hT : isT ys b = true := by unfold isT; simp [hr, b0, hc]
    have hk : kidsF ys b = kidsN b 0 ys := by unfold kidsF; rw [if_pos hT]
    have kl := kidsN_len b 0 ys
    simp [J_turn_New_0]
    refine Tells.bind (tree_Kids hX o (by omega) b) ?_
    rintro kv h1 ⟨gk, x1⟩
    rw [hk] at gk
    simp [gk.1.len]
    refine Tells.mak (by rfl) (by omega) (by decide) (boolC _) fun h2 bq l2 o2 x2 => ?_
    simp [bldR, fillR, splice, gk.1.known, gk.1.cells]
    refine Tells.box rfl rfl fun h3 bt o3 x3 l3 => ?_
    have k1 := x1.next
    have k2 := x2.next
    have k3 := o2.lt
    try simp
    refine Tells.ok (hQ _ _ ⟨(x1.trans x2).trans x3, .inl ⟨hc, bt, bq, kv, rfl, ⟨by simpa using o3, (gk.1.ext x2).ext x3, o2.e x3, by omega, by simp, Gl.nil⟩, by omega, by omega⟩⟩)

theorem turn_Stopped (hX : OnlyKnown X) (o : TP h bt bq root kv ks qs ep st rd pv cs) : Tells (fun q => acallX Try.prog X q F_turn_Turn_Stopped [.ptr bt 0] h) fun a h' => a = .bool st ∧ h' = h := by
  refine R_turn_Turn_Stopped _ (hX _ _ rfl) ?_
  unfold S_turn_Turn_Stopped
  simp [nckR, o.o.1]
  exact Tells.ok ⟨rfl, rfl⟩
theorem turn_Epoch (hX : OnlyKnown X) (o : TP h bt bq root kv ks qs ep st rd pv cs) : Tells (fun q => acallX Try.prog X q F_turn_Turn_Epoch [.ptr bt 0] h) fun a h' => a = I ep ∧ h' = h := by
  refine R_turn_Turn_Epoch _ (hX _ _ rfl) ?_
  unfold S_turn_Turn_Epoch
  simp [nckR, o.o.1]
  exact Tells.ok ⟨rfl, rfl⟩

theorem turn_Begin (hX : OnlyKnown X) (o : TP h bt bq root kv ks qs ep st rd pv cs) :
    Tells (fun q => acallX Try.prog X q F_turn_Turn_Begin [.ptr bt 0] h) fun a h' => a = .bool (root && !st && decide (0 < cs.length)) ∧ TP h' bt bq root kv ks qs ep (st || (root && decide (0 < cs.length))) rd pv cs ∧ Ext [bt] h h' := by
  refine R_turn_Turn_Begin _ (hX _ _ rfl) ?_
  refine Tells.prot fun Q' hQ => ?_
  unfold S_turn_Turn_Begin
  cases root with
  | false =>
    simp [nckR, o.o.1]
    exact Tells.ok (hQ _ _ ⟨rfl, by simpa using o, .refl⟩)
  | true =>
    cases st with
    | true =>
      simp [nckR, o.o.1]
      exact Tells.ok (hQ _ _ ⟨rfl, o, .refl⟩)
    | false =>
      by_cases hn : cs.length = 0
      · simp [nckR, o.o.1, o.g.1.len, hn]
        exact Tells.ok (hQ _ _ ⟨by simp [hn], by simpa [hn] using o, .refl⟩)
      · have hn2 : ((cs.length : Int) == 0) = false := beq_eq_false_iff_ne.2 (by omega)
        have hp : 0 < cs.length := by omega
        simp [nckR, o.o.1, o.g.1.len, hn2, J_turn_Turn_Begin_0]
        refine Tells.st1 o.o (by rfl) (by rfl) (by simp) fun h1 o1 x1 => ?_
        try simp
        exact Tells.ok (hQ _ _ ⟨by simp [hp], ⟨by simpa [hp] using o1, o.k.ext x1, o.q.ext x1 (by simpa using o.ne.symm), o.ne, o.l, o.g.extO x1 (by simpa using .inl o.o.2.1)⟩, x1⟩)

theorem turn_Stop (hX : OnlyKnown X) (o : TP h bt bq root kv ks qs ep st rd pv cs) (e : Int) :
    Tells (fun q => acallX Try.prog X q F_turn_Turn_Stop [.ptr bt 0, I e] h) fun a h' => a = .bool (!root && !st && decide (e = ep)) ∧ TP h' bt bq root kv ks qs ep (st || (!root && decide (e = ep))) rd pv cs ∧ Ext [bt] h h' := by
  refine R_turn_Turn_Stop _ _ (hX _ _ rfl) ?_
  refine Tells.prot fun Q' hQ => ?_
  unfold S_turn_Turn_Stop
  cases root with
  | true =>
    simp [nckR, o.o.1]
    exact Tells.ok (hQ _ _ ⟨rfl, by simpa using o, .refl⟩)
  | false =>
    cases st with
    | true =>
      simp [nckR, o.o.1]
      exact Tells.ok (hQ _ _ ⟨rfl, o, .refl⟩)
    | false =>
      by_cases hn : e = ep
      · subst hn
        simp [nckR, o.o.1, J_turn_Turn_Stop_0]
        refine Tells.st1 o.o (by rfl) (by rfl) (by simp) fun h1 o1 x1 => ?_
        try simp
        exact Tells.ok (hQ _ _ ⟨by simp, ⟨by simpa using o1, o.k.ext x1, o.q.ext x1 (by simpa using o.ne.symm), o.ne, o.l, o.g.extO x1 (by simpa using .inl o.o.2.1)⟩, x1⟩)
      · have hb : (e != ep) = true := by simp [hn]
        simp [nckR, o.o.1, hb]
        exact Tells.ok (hQ _ _ ⟨by simp [hn], by simpa [hn] using o, .refl⟩)

theorem turn_Quiet (hX : OnlyKnown X) (o : TP h bt bq root kv ks qs ep st rd pv cs) (hl : ks.length ≤ 100) (x e : Int) :
    Tells (fun q => acallX Try.prog X q F_turn_Turn_Quiet [.ptr bt 0, I x, I e] h) fun a h' => Ext [bq] h h' ∧
      ((st = true ∧ e = ep ∧ a = .bool true ∧ ∃ i : Nat, ks[i]? = some x ∧ qs[i]? = some false ∧ TP h' bt bq root kv ks (qs.set i true) ep st rd pv cs) ∨
       (a = .bool false ∧ h' = h ∧ (st = true → e = ep → ∀ i : Nat, ks[i]? = some x → qs[i]? = some true))) := by
  refine R_turn_Turn_Quiet _ _ _ (hX _ _ rfl) ?_
  refine Tells.prot fun Q' hQ => ?_
  unfold S_turn_Turn_Quiet
  cases st with
  | false =>
    simp [nckR, o.o.1]
    exact Tells.ok (hQ _ _ ⟨.refl, .inr ⟨rfl, rfl, by simp⟩⟩)
  | true =>
    by_cases he : e = ep
    · subst he
      simp [nckR, o.o.1, J_turn_Turn_Quiet_0, o.k.len]
      refine Tells.bind (Tells.loop (fun n t g => ∃ i : Nat, t 0 = .ptr bt 0 ∧ t 1 = I x ∧ t 25 = kv ∧ t 26 = I ks.length ∧ t 27 = I i ∧ i + n = ks.length ∧ g = h ∧ ∀ j : Nat, j < i → ks[j]? = some x → qs[j]? = some true)
        (Q := fun p g => (p.1 = .exit 0 ∧ g = h ∧ ∀ j : Nat, ks[j]? = some x → qs[j]? = some true) ∨ (p.1 = .ret ∧ p.2 6 = .bool true ∧ Ext [bq] h g ∧ ∃ i : Nat, ks[i]? = some x ∧ qs[i]? = some false ∧ TP g bt bq root kv ks (qs.set i true) e true rd pv cs)) ?_ ks.length _ _ ?_) ?_
      · rintro n t g ⟨i, t0, t1, t25, t26, t27, hi, rfl, hj⟩
        refine Tells.prot fun Q2 hQ2 => ?_
        unfold L_turn_Turn_Quiet_2
        simp [t26, t27]
        refine Tells.cb (fun hc => ?_) (fun hc => ?_)
        · simp at hc
          obtain ⟨k, hk⟩ : ∃ k, ks[i]? = some k := ⟨_, List.getElem?_eq_getElem hc⟩
          obtain ⟨q, hq⟩ : ∃ q, qs[i]? = some q := ⟨_, List.getElem?_eq_getElem (by rw [o.l]; exact hc)⟩
          obtain ⟨b1, p1, B1, q1, q2, q3⟩ := o.k.atI hk
          have w : IntKind.i64.wrap ((i : Int) + 1) = i + 1 := wrap_id (by omega) (by omega)
          have qa : ixsR 1 (.sl bq 0 ks.length ks.length 1 true) (.int .i64 (i : Int)) = some (.ptr bq (i * 1)) := ixs_made hc
          rw [Nat.mul_one] at qa
          have qb : (qs.map AVal.bool)[i]? = some (.bool q) := by rw [List.getElem?_map, hq]; rfl
          have next : (k = x → q = true) → ∀ j : Nat, j < i + 1 → ks[j]? = some x → qs[j]? = some true := fun hn j hj' hx => by
            by_cases e : j = i
            · subst e; rw [hk] at hx; cases hx; rw [hq, hn rfl]
            · exact hj j (by omega) hx
          by_cases hkx : k = x
          · cases q with
            | false =>
              simp [J_turn_Turn_Quiet_3, t25, t27, q1, q2, q3, t1, hkx, t0, nckR, o.o.1, qa, o.q.1, hq]
              refine Tells.st1 o.q (by rfl) (by rfl) (by simp [o.l]; exact hc) fun h1 o1 x1 => ?_
              try simp
              refine Tells.ok (hQ2 _ _ (.inr ⟨by simp, .inr ⟨rfl, by simp, x1, i, by rw [hk, hkx], hq, ⟨o.o.ext x1 (by simpa using o.ne), o.k.ext x1, ?_, o.ne, by simpa using o.l, o.g.extO x1 (by simpa using .inl o.q.2.1)⟩⟩⟩))
              rw [← List.map_set] at o1
              exact o1
            | true =>
              simp [J_turn_Turn_Quiet_3, t25, t27, q1, q2, q3, t1, hkx, t0, nckR, o.o.1, qa, o.q.1, hq, J_turn_Turn_Quiet_4, w]
              exact Tells.ok (hQ2 _ _ (.inl ⟨rfl, n - 1, by omega, i + 1, by simp [t0], by simp [t1], by simp [t25], by simp [t26], by simp, by omega, rfl, next fun _ => rfl⟩))
          · simp [J_turn_Turn_Quiet_3, t25, t27, q1, q2, q3, t1, beq_eq_false_iff_ne.2 hkx, J_turn_Turn_Quiet_4, w]
            exact Tells.ok (hQ2 _ _ (.inl ⟨rfl, n - 1, by omega, i + 1, by simp [t0], by simp [t1], by simp [t25], by simp [t26], by simp, by omega, rfl, next fun q => absurd q hkx⟩))
        · simp at hc
          refine Tells.ok (hQ2 _ _ (.inr ⟨by simp, .inl ⟨rfl, rfl, fun j hx => hj j ?_ hx⟩⟩))
          have := (List.getElem?_eq_some_iff.1 hx).1
          omega
      · exact ⟨0, by simp, by simp, by simp, by simp, by simp, by omega, rfl, by simp⟩
      · rintro ⟨ex, t⟩ g (⟨rfl, rfl, hj⟩ | ⟨rfl, t6, x1, hi⟩)
        · simp [J_turn_Turn_Quiet_1]
          exact Tells.ok (hQ _ _ ⟨.refl, .inr ⟨rfl, rfl, fun _ _ => hj⟩⟩)
        · simp only at t6
          simp [t6]
          exact Tells.ok (hQ _ _ ⟨x1, .inl ⟨rfl, rfl, rfl, hi⟩⟩)
    · have hb : (e != ep) = true := by simp [he]
      simp [nckR, o.o.1, hb]
      exact Tells.ok (hQ _ _ ⟨.refl, .inr ⟨rfl, rfl, fun _ q => absurd q he⟩⟩)

theorem turn_Ready (hX : OnlyKnown X) (o : TP h bt bq root kv ks qs ep st rd pv cs) (hl : ks.length ≤ 100) (live : Bool) :
    Tells (fun q => acallX Try.prog X q F_turn_Turn_Ready [.ptr bt 0, .bool live] h) fun a h' => a = .bool (st && !live && !rd && qs.all id) ∧ TP h' bt bq root kv ks qs ep st (rd || (st && !live && qs.all id)) pv cs ∧ Ext [bt] h h' := by
  refine R_turn_Turn_Ready _ _ (hX _ _ rfl) ?_
  refine Tells.prot fun Q' hQ => ?_
  unfold S_turn_Turn_Ready
  cases st with
  | false =>
    simp [nckR, o.o.1]
    exact Tells.ok (hQ _ _ ⟨rfl, by simpa using o, .refl⟩)
  | true =>
    cases live with
    | true =>
      simp [nckR, o.o.1]
      exact Tells.ok (hQ _ _ ⟨rfl, by simpa using o, .refl⟩)
    | false =>
      cases rd with
      | true =>
        simp [nckR, o.o.1]
        exact Tells.ok (hQ _ _ ⟨rfl, by simpa using o, .refl⟩)
      | false =>
        have hlen : lenL (.sl bq 0 ks.length ks.length 1 true) = some (I ks.length) := rfl
        simp [nckR, o.o.1, J_turn_Turn_Ready_0, hlen]
        refine Tells.bind (Tells.loop (fun n t g => ∃ i : Nat, t 0 = .ptr bt 0 ∧ t 24 = .sl bq 0 ks.length ks.length 1 true ∧ t 25 = I ks.length ∧ t 26 = I i ∧ i + n = ks.length ∧ g = h ∧ qs.all id = (qs.drop i).all id)
          (Q := fun p g => g = h ∧ ((p.1 = .exit 0 ∧ p.2 0 = .ptr bt 0 ∧ qs.all id = true) ∨ (p.1 = .ret ∧ p.2 4 = .bool false ∧ qs.all id = false))) ?_ ks.length _ _ ?_) ?_
        · rintro n t g ⟨i, t0, t24, t25, t26, hi, rfl, ha⟩
          refine Tells.prot fun Q2 hQ2 => ?_
          unfold L_turn_Turn_Ready_2
          simp [t25, t26]
          refine Tells.cb (fun hc => ?_) (fun hc => ?_)
          · simp at hc
            have hc' : i < qs.length := by rw [o.l]; exact hc
            obtain ⟨q, hq⟩ : ∃ q, qs[i]? = some q := ⟨_, List.getElem?_eq_getElem hc'⟩
            have w : IntKind.i64.wrap ((i : Int) + 1) = i + 1 := wrap_id (by omega) (by omega)
            have qa : ixsR 1 (.sl bq 0 ks.length ks.length 1 true) (.int .i64 (i : Int)) = some (.ptr bq (i * 1)) := ixs_made hc
            rw [Nat.mul_one] at qa
            have hd : qs.drop i = q :: qs.drop (i + 1) := by
              rw [List.drop_eq_getElem_cons hc', (List.getElem?_eq_some_iff.1 hq).2]
            rw [hd, List.all_cons] at ha
            cases q with
            | false =>
              simp [J_turn_Turn_Ready_3, t24, t26, qa, o.q.1, hq]
              exact Tells.ok (hQ2 _ _ (.inr ⟨by simp, rfl, .inr ⟨rfl, by simp, by rw [ha]; rfl⟩⟩))
            | true =>
              simp [J_turn_Turn_Ready_3, t24, t26, qa, o.q.1, hq, J_turn_Turn_Ready_4, w]
              exact Tells.ok (hQ2 _ _ (.inl ⟨rfl, n - 1, by omega, i + 1, by simp [t0], by simp [t24], by simp [t25], by simp, by omega, rfl, by rw [ha]; rfl⟩))
          · simp at hc
            refine Tells.ok (hQ2 _ _ (.inr ⟨by simp, rfl, .inl ⟨rfl, by simp [t0], ?_⟩⟩))
            rw [ha, List.drop_eq_nil_of_le (by rw [o.l]; omega)]
            rfl
        · exact ⟨0, by simp, by simp, by simp, by simp, by omega, rfl, rfl⟩
        · rintro ⟨ex, t⟩ h ⟨rfl, ⟨rfl, t0, ha⟩ | ⟨rfl, t4, ha⟩⟩
          · simp only at t0
            simp [J_turn_Turn_Ready_1, t0, nckR]
            refine Tells.st1 o.o (by rfl) (by rfl) (by simp) fun h1 o1 x1 => ?_
            try simp
            exact Tells.ok (hQ _ _ ⟨by rw [ha]; rfl, ⟨by rw [ha]; simpa using o1, o.k.ext x1, o.q.ext x1 (by simpa using o.ne.symm), o.ne, o.l, o.g.extO x1 (by simpa using .inl o.o.2.1)⟩, x1⟩)
          · simp only at t4
            simp [t4]
            exact Tells.ok (hQ _ _ ⟨by rw [ha]; rfl, by rw [ha]; simpa using o, .refl⟩)

theorem turn_clone (hX : OnlyKnown X) {h : Heap} (c : Ch) : Tells (fun q => acallX Try.prog X q F_turn_clone [.agg (chC c)] h) fun a h' => a = .agg (chC c) ∧ Ext [] h h' := by
  refine R_turn_clone _ (hX _ _ rfl) ?_
  refine Tells.prot fun Q' hQ => ?_
  unfold S_turn_clone
  have hl : lenL .nils = some (I 0) := rfl
  have app0 : ∀ g : Heap, appR 13 144 g .nils .nils = .val .nils g := fun g => by rfl
  try simp
  refine Tells.box rfl rfl fun h1 bc oc x1 l1 => ?_
  have oc : Ob h1 bc [.bool c.1, I c.2.1, I 0, I c.2.2, .nils] := oc
  try simp
  refine Tells.new fun h2 bv ov x2 l2 => ?_
  have m1 := x1.next
  have oc2 := oc.e x2
  have hcv : bc ≠ bv := by have := oc.lt; omega
  simp [oc2.1, app0]
  refine Tells.st1 oc2 (by rfl) (by rfl) (by simp) fun h3 oc3 x3 => ?_
  have oc3 : Ob h3 bc [.bool c.1, I c.2.1, I 0, I c.2.2, .nils] := by simpa using oc3
  have ov3 := ov.ext x3 (by simpa using Ne.symm hcv)
  have x03 : Ext [] h h3 := (x1.trans x2).then x3 (by simp; omega)
  simp [oc3.1, hl]
  refine Tells.bind (Tells.loop (fun n t g => t 1 = .ptr bc 0 ∧ t 2 = .ptr bv 0 ∧ t 13 = I 0 ∧ t 14 = I 0 ∧ g = h3) (Q := fun p g => p.1 = .exit 0 ∧ p.2 1 = .ptr bc 0 ∧ p.2 2 = .ptr bv 0 ∧ g = h3) ?_ 0 _ _ ?_) ?_
  · rintro n t g ⟨t1, t2, t13, t14, rfl⟩
    refine Tells.prot fun Q2 hQ2 => ?_
    unfold L_turn_clone_1
    simp [t13, t14]
    exact Tells.ok (hQ2 _ _ (.inr ⟨by simp, rfl, by simp [t1], by simp [t2], rfl⟩))
  · exact ⟨by simp, by simp, by simp, by simp, rfl⟩
  · rintro ⟨ex, t⟩ h3 ⟨rfl, t1, t2, rfl⟩
    simp only at t1 t2
    simp [J_turn_clone_0, t1, t2, oc3.1]
    refine Tells.stN ov3 (by rfl) (by rfl) (by rfl) (by rfl) fun h9 o9 x9 => ?_
    simp [t2, C_turn_clone_0, o9.1]
    exact Tells.ok (hQ _ _ ⟨rfl, x03.then x9 (by simp; omega)⟩)

theorem turn_Add (hX : OnlyKnown X) (o : TP h bt bq root kv ks qs ep st rd pv cs) (hl : cs.length < 2 ^ 20) (c : Ch) :
    Tells (fun q => acallX Try.prog X q F_turn_Turn_Add [.ptr bt 0, .agg (chC c)] h) fun a h' => a = .bool root ∧ (∃ pv', TP h' bt bq root kv ks qs ep st rd pv' (if root then cs ++ [c] else cs) ∧ ∀ b, b ∈ pv'.blks → b ∈ pv.blks ∨ h.next ≤ b) ∧ Ext (bt :: pv.blks) h h' := by
  refine R_turn_Turn_Add _ _ (hX _ _ rfl) ?_
  refine Tells.prot fun Q' hQ => ?_
  unfold S_turn_Turn_Add
  try simp
  refine Tells.box rfl rfl fun h1 bc oc x1 l1 => ?_
  have oc : Ob h1 bc [.bool c.1, I c.2.1, I 0, I c.2.2, .nils] := oc
  have o1 := o.e x1
  have m1 := x1.next
  cases root with
  | false =>
    simp [nckR, o1.o.1, J_turn_Turn_Add_0]
    exact Tells.ok (hQ _ _ ⟨rfl, ⟨pv, by simpa using o1, fun b hb => .inl hb⟩, x1.of⟩)
  | true =>
    simp [nckR, o1.o.1, oc.1]
    refine Tells.cbE (turn_clone hX c) ?_
    rintro _ h2 ⟨rfl, x2⟩
    have m2 := x2.next
    have o2 := o1.e x2
    simp [o1.o.1, o2.o.1]
    refine Tells.app1E o2.g (by rfl) (by rfl) (show chG.rep h2 (chC c) c from rfl) (by rfl) (by rfl) (by omega) (by decide) (Nat.zero_le _) fun s3 h3 g3 x3 y3 z3 => ?_
    have o3 := o2.o.ext x3 (o2.g.1.ob o2.o)
    have q3 := o2.q.ext x3 (o2.g.1.ob o2.q)
    try simp [nckR]
    refine Tells.st1E o3 g3.1.cells g3.1.one (by simp) fun h4 o4 x4 => ?_
    simp [J_turn_Turn_Add_0, nckR, o4.1]
    refine Tells.ok (hQ _ _ ⟨rfl, ⟨s3, ⟨by simpa using o4, (o2.k.ext x3).ext x4, q3.ext x4 (by simpa using o.ne.symm), o.ne, o.l, g3.extO x4 (by simpa using .inl o3.2.1)⟩, fun b hb => ?_⟩, ?_⟩)
    · rcases z3 b hb with q | q
      · exact .inl q
      · exact .inr (by omega)
    · exact ((x1.trans x2).of.trans (x3.mono (fun b hb => by simp [hb]))).trans (x4.mono (by simp))

theorem turn_Pending (hX : OnlyKnown X) (o : TP h bt bq root kv ks qs ep st rd pv cs) : Tells (fun q => acallX Try.prog X q F_turn_Turn_Pending [.ptr bt 0] h) fun a h' => a = I cs.length ∧ h' = h := by
  refine R_turn_Turn_Pending _ (hX _ _ rfl) ?_
  unfold S_turn_Turn_Pending
  simp [nckR, o.o.1, o.g.1.len]
  exact Tells.ok ⟨rfl, rfl⟩

theorem turn_Open (hX : OnlyKnown X) (o : TP h bt bq root kv ks qs ep st rd pv cs) (he : 0 ≤ ep ∧ ep ≤ 2 ^ 20) (hl : ks.length ≤ 100) (e : Int) :
    Tells (fun q => acallX Try.prog X q F_turn_Turn_Open [.ptr bt 0, I e] h) fun a h' => Ext [bt] h h' ∧
      ((st = true ∧ e = ep + 1 ∧ a = .tup [pv, .bool true] ∧ Sl chG h' pv cs ∧ ∃ bq', h.next ≤ bq' ∧ TP h' bt bq' root kv ks (List.replicate ks.length false) e false false .nils []) ∨
       (¬ (st = true ∧ e = ep + 1) ∧ a = .tup [.nils, .bool false] ∧ h' = h)) := by
  refine R_turn_Turn_Open _ _ (hX _ _ rfl) ?_
  refine Tells.prot fun Q' hQ => ?_
  unfold S_turn_Turn_Open
  have we : IntKind.i64.wrap (ep + 1) = ep + 1 := wrap_id (by omega) (by omega)
  cases st with
  | false =>
    simp [nckR, o.o.1]
    exact Tells.ok (hQ _ _ ⟨.refl, .inr ⟨by simp, rfl, rfl⟩⟩)
  | true =>
    by_cases hee : e = ep + 1
    · subst hee
      simp [nckR, o.o.1, we, J_turn_Turn_Open_0]
      refine Tells.st1 o.o (by rfl) (by rfl) (by simp) fun h1 o1 x1 => ?_
      try simp [nckR]
      refine Tells.st1 o1 (by rfl) (by rfl) (by simp) fun h2 o2 x2 => ?_
      try simp [nckR]
      refine Tells.st1 o2 (by rfl) (by rfl) (by simp) fun h3 o3 x3 => ?_
      try simp [nckR]
      refine Tells.st1 o3 (by rfl) (by rfl) (by simp) fun h4 o4 x4 => ?_
      have o4 : Ob h4 bt [.bool root, kv, .sl bq 0 ks.length ks.length 1 true, I (ep + 1), .bool false, .bool false, .nils] := by simpa using o4
      have x04 : Ext [bt] h h4 := ((x1.trans x2).trans x3).trans x4
      have k4 := o.k.ext x04
      simp [nckR, o4.1, k4.len]
      refine Tells.mak (by rfl) (by omega) (by decide) (boolC _) fun h5 bq' l5 o5 x5 => ?_
      have o45 := o4.e x5
      have hne : bt ≠ bq' := by have := o4.lt; omega
      try simp [nckR]
      refine Tells.st1 o45 (by rfl) (by rfl) (by simp) fun h6 o6 x6 => ?_
      have xx : Ext [bt] h h6 := (x04.trans x5.of).trans x6
      have n4 := x04.next
      try simp
      exact Tells.ok (hQ _ _ ⟨xx, .inl ⟨rfl, rfl, rfl, o.g.1.ext xx, bq', by omega, ⟨by simpa using o6, o.k.ext xx, o5.ext x6 (by simpa using hne.symm), hne, by simp, Gl.nil⟩⟩⟩)
    · have hb : (e != ep + 1) = true := by simp [hee]
      simp [nckR, o.o.1, we, hb]
      exact Tells.ok (hQ _ _ ⟨.refl, .inr ⟨by simp [hee], rfl, rfl⟩⟩)
end
end Go.Proofs.Ytchmlbjjadlleaa

/-! turn.New, whose kids are memory of their own; Turns while a row is written in place. -/
namespace Go.Proofs.Ytchmlbjjadlleaa
open Go.Ab

theorem TP.extC {b : Nat} {h h' : Heap} {bt bq : Nat} {root : Bool} {kv pv : AVal} {ks : List Int} {qs : List Bool} {ep : Int} {st rd : Bool} {cs : List Ch} (o : TP h bt bq root kv ks qs ep st rd pv cs) (x : ExtC b h h') (hm : h.isM b = false) (a1 : Apart h b kv) (a2 : Apart h b pv) : TP h' bt bq root kv ks qs ep st rd pv cs :=
  ⟨o.o.extC x hm, o.k.extC (fun q => q) x a1, o.q.extC x hm, o.ne, o.l, o.g.extC (fun q => q) x a2⟩

section
variable {X : XTab}

theorem tree_KidsW (hX : OnlyKnown X) {h : Heap} {v : AVal} {ys : List Int} (o : Sl intR h v ys) (hl : ys.length < 2 ^ 32) (b : Int) :
    Tells (fun q => acallX Try.prog X q F_tree_Kids [v, I b] h) fun r h' => Gl intR h h' r (kidsF ys b) ∧ Wr h h' r ∧ Ext [] h h' := by
  refine R_tree_Kids _ _ (hX _ _ rfl) ?_
  refine Tells.prot fun Q' hQ => ?_
  unfold S_tree_Kids
  simp
  refine Tells.bind (tree_is hX o (by omega) b) ?_
  rintro _ h ⟨rfl, rfl⟩
  cases hb : isT ys b with
  | false =>
    simp
    exact Tells.ok (hQ _ _ ⟨by simp [kidsF, hb]; exact Gl.nil, fun b hb => by simp [AVal.blks] at hb, .refl⟩)
  | true =>
    simp [J_tree_Kids_0, o.len]
    refine Tells.bind (Tells.loop (fun n t g => ∃ (i : Nat) (pre : List Int), t 1 = I b ∧ t 13 = v ∧ t 14 = I ys.length ∧ t 15 = I i ∧ i + n = ys.length ∧ pre.length ≤ i ∧ kidsN b 0 ys = pre ++ kidsN b i (ys.drop i) ∧ Gl intR h g (t 5) pre ∧ Wr h g (t 5) ∧ Ext [] h g)
      (Q := fun p g => p.1 = .exit 0 ∧ Gl intR h g (p.2 5) (kidsN b 0 ys) ∧ Wr h g (p.2 5) ∧ Ext [] h g) ?_ ys.length _ _ ?_) ?_
    · rintro n t g ⟨i, pre, t1, t13, t14, t15, hi, pl, hk, go, wr, x⟩
      refine Tells.prot fun Q2 hQ2 => ?_
      unfold L_tree_Kids_2
      simp [t14, t15]
      refine Tells.cb (fun hc => ?_) (fun hc => ?_)
      · simp at hc
        obtain ⟨y, hy⟩ : ∃ y, ys[i]? = some y := ⟨_, List.getElem?_eq_getElem hc⟩
        obtain ⟨bb, pp, B, q1, q2, q3⟩ := (o.ext x).atI hy
        have w : IntKind.i64.wrap ((i : Int) + 1) = i + 1 := wrap_id (by omega) (by omega)
        rw [kidsN_drop hy] at hk
        simp [J_tree_Kids_3, t13, t15, q1, q2, q3, t1]
        by_cases hyb : y = b
        · rw [if_pos hyb] at hk
          simp [hyb, w]
          refine Tells.app1W go wr (by rfl) (by rfl) (show intR.rep g [I (i + 1)] (i + 1) from rfl) (by rfl) (by rfl) (by omega) (by decide) x.next fun s3 h3 g3 w3 x3 y3 z3 => ?_
          simp [J_tree_Kids_4, t15, w]
          exact Tells.ok (hQ2 _ _ (.inl ⟨rfl, n - 1, by omega, i + 1, pre ++ [(i : Int) + 1], by simp [t1], by simp [t13], by simp [t14], by simp, by omega, by simp; omega, by rw [hk]; simp, by simpa using g3, by simpa using w3, y3 [] x⟩))
        · rw [if_neg hyb] at hk
          simp [beq_eq_false_iff_ne.2 hyb, J_tree_Kids_4, t15, w]
          exact Tells.ok (hQ2 _ _ (.inl ⟨rfl, n - 1, by omega, i + 1, pre, by simp [t1], by simp [t13], by simp [t14], by simp, by omega, by omega, hk, by simpa using go, by simpa using wr, x⟩))
      · simp at hc
        rw [List.drop_eq_nil_of_le (by omega)] at hk
        exact Tells.ok (hQ2 _ _ (.inr ⟨by simp, rfl, by rw [hk]; simpa [kidsN] using go, wr, x⟩))
    · exact ⟨0, [], by simp, by simp, by simp, by simp, by omega, by simp, by simp, by simpa using Gl.nil, fun b hb => by simp [AVal.blks] at hb, .refl⟩
    · rintro ⟨ex, t⟩ g ⟨rfl, go, wr, x⟩
      simp [J_tree_Kids_1]
      exact Tells.ok (hQ _ _ ⟨by simpa [kidsF, hb] using go, by simpa using wr, x⟩)

theorem turn_NewW (hX : OnlyKnown X) {h : Heap} {v : AVal} {ys : List Int} (o : Sl intR h v ys) (ok : TreeOk ys) (h7 : ys.length ≤ 7) {b : Int} (b0 : 0 ≤ b) :
    Tells (fun q => acallX Try.prog X q F_turn_New [v, I b] h) fun a h' => Ext [] h h' ∧ ((b ≤ ys.length ∧ ∃ bt bq kv, a = .tup [.ptr bt 0, I 0] ∧ TP h' bt bq (b == 0) kv (kidsN b 0 ys) (List.replicate (kidsN b 0 ys).length false) 0 false false .nils [] ∧ h.next ≤ bt ∧ h.next ≤ bq ∧ Wr h h' kv) ∨ (ys.length < b ∧ a = .tup [.nilp, I 4])) := by
  refine R_turn_New _ _ (hX _ _ rfl) ?_
  refine Tells.prot fun Q' hQ => ?_
  have hr : rightT ys = true := by
    unfold rightT
    simp only [Bool.and_eq_true, decide_eq_true_eq]
    refine ⟨(rightFrom_all ys 0).2 fun i z hz => ?_, h7⟩
    have := ok i z hz
    simpa using this
  unfold S_turn_New
  try simp
  refine Tells.bind (Right hX o (by omega)) ?_
  rintro _ h ⟨rfl, rfl⟩
  simp [hr, show ¬ b < 0 by omega, o.len]
  refine Tells.cb (fun hc => ?_) (fun hc => ?_)
  · simp at hc
    try simp
    exact Tells.ok (hQ _ _ ⟨.refl, .inr ⟨hc, rfl⟩⟩)
  · simp at hc
    have hT : isT ys b = true := by unfold isT; simp [hr, b0, hc]
    have hk : kidsF ys b = kidsN b 0 ys := by unfold kidsF; rw [if_pos hT]
    have kl := kidsN_len b 0 ys
    simp [J_turn_New_0]
    refine Tells.bind (tree_KidsW hX o (by omega) b) ?_
    rintro kv h1 ⟨gk, wk, x1⟩
    rw [hk] at gk
    simp [gk.1.len]
    refine Tells.mak (by rfl) (by omega) (by decide) (boolC _) fun h2 bq l2 o2 x2 => ?_
    simp [bldR, fillR, splice, gk.1.known, gk.1.cells]
    refine Tells.box rfl rfl fun h3 bt o3 x3 l3 => ?_
    have k1 := x1.next
    have k2 := x2.next
    have k3 := o2.lt
    try simp
    refine Tells.ok (hQ _ _ ⟨(x1.trans x2).trans x3, .inl ⟨hc, bt, bq, kv, rfl, ⟨by simpa using o3, (gk.1.ext x2).ext x3, o2.e x3, by omega, by simp, Gl.nil⟩, by omega, by omega, (wk.ext x2).ext x3⟩⟩)

/-- The first change that pends: its row is memory of its own. -/
theorem turn_AddW (hX : OnlyKnown X) {h : Heap} {bt bq : Nat} {kv : AVal} {ks : List Int} {qs : List Bool} {ep : Int} {st rd : Bool} (o : TP h bt bq true kv ks qs ep st rd .nils []) (c : Ch) :
    Tells (fun q => acallX Try.prog X q F_turn_Turn_Add [.ptr bt 0, .agg (chC c)] h) fun a h' => a = .bool true ∧ (∃ pv', TP h' bt bq true kv ks qs ep st rd pv' [c] ∧ Wr h h' pv') ∧ Ext [bt] h h' := by
  refine R_turn_Turn_Add _ _ (hX _ _ rfl) ?_
  refine Tells.prot fun Q' hQ => ?_
  unfold S_turn_Turn_Add
  try simp
  refine Tells.box rfl rfl fun h1 bc oc x1 l1 => ?_
  have oc : Ob h1 bc [.bool c.1, I c.2.1, I 0, I c.2.2, .nils] := oc
  have o1 := o.e x1
  have m1 := x1.next
  simp [nckR, o1.o.1, oc.1]
  refine Tells.cbE (turn_clone hX c) ?_
  rintro _ h2 ⟨rfl, x2⟩
  have m2 := x2.next
  have o2 := o1.e x2
  simp [o1.o.1, o2.o.1]
  refine Tells.app1WE (xs := ([] : List Ch)) Gl.nil (h0 := h) (fun b hb => by simp [AVal.blks] at hb) (by rfl) (by rfl) (show chG.rep h2 (chC c) c from rfl) (by rfl) (by rfl) (by simp) (by decide) (by omega) fun s3 h3 g3 w3 x3 y3 z3 => ?_
  have o3 := o2.o.ext x3 (o2.g.1.ob o2.o)
  have q3 := o2.q.ext x3 (o2.g.1.ob o2.q)
  try simp [nckR]
  refine Tells.st1E o3 g3.1.cells g3.1.one (by simp) fun h4 o4 x4 => ?_
  simp [J_turn_Turn_Add_0, nckR, o4.1]
  refine Tells.ok (hQ _ _ ⟨rfl, ⟨s3, ⟨by simpa using o4, (o2.k.ext x3).ext x4, q3.ext x4 (by simpa using o.ne.symm), o.ne, o.l, (Gl.back (by simpa using g3) (Nat.zero_le _)).extO x4 (by simpa using .inl o3.2.1)⟩, w3.ext x4⟩, ?_⟩)
  exact ((x1.trans x2).of.trans (x3.mono (fun b hb => by simp [AVal.blks] at hb))).trans (x4.mono (by simp))

end
end Go.Proofs.Ytchmlbjjadlleaa

/-! A feed lives through a write into a row. -/
namespace Go.Proofs.Ytchmlbjjadlleaa
open Go.Ab
theorem Feed.extCX {b : Nat} {h h' : Heap} {bf k : Nat} (f : Feed h bf k) (x : ExtC b h h') (hm : h.isM b = false) (hn : h.n0 ≤ b) : Feed h' bf k := by
  obtain ⟨L, a, xs, h1, h2, h3, h4, h5, h6⟩ := f
  have ap : Apart h b L := fun c hc => by
    have := h6 c hc
    refine ⟨by omega, fun r _ q => ?_⟩
    have := Heap.cls_eq q
    omega
  exact ⟨L, a, xs, h1.extC x hm, h2, h3, h4.extC (fun q => q) x ap, h5, by rw [x.n0]; exact h6⟩
end Go.Proofs.Ytchmlbjjadlleaa

/-! Rising lists; who is a kid. -/
namespace Go.Proofs.Ytchmlbjjadlleaa
open Go.Ab

section
variable {X : XTab}

theorem sorted_ext : ∀ (l m : List Int), l.Pairwise (· < ·) → m.Pairwise (· < ·) → (∀ x, x ∈ l ↔ x ∈ m) → l = m
  | [], [], _, _, _ => rfl
  | [], y :: m, _, _, h => by have := (h y).2 (by simp); simp at this
  | x :: l, [], _, _, h => by have := (h x).1 (by simp); simp at this
  | x :: l, y :: m, hl, hm, h => by
    rw [List.pairwise_cons] at hl hm
    have e : x = y := by
      have h1 := (h x).1 (by simp)
      have h2 := (h y).2 (by simp)
      simp at h1 h2
      rcases h1 with h1 | h1
      · exact h1
      · rcases h2 with h2 | h2
        · exact h2.symm
        · have := hl.1 y h2; have := hm.1 x h1; omega
    subst e
    congr 1
    refine sorted_ext l m hl.2 hm.2 fun z => ⟨fun hz => ?_, fun hz => ?_⟩
    · have := (h z).1 (by simp [hz])
      simp at this
      rcases this with q | q
      · subst q; have := hl.1 z hz; omega
      · exact q
    · have := (h z).2 (by simp [hz])
      simp at this
      rcases this with q | q
      · subst q; have := hm.1 z hz; omega
      · exact q

theorem mem_fromN {p : Int → Bool} {z : Int} : ∀ {k : Nat} {x : Int}, z ∈ fromN p k x ↔ x ≤ z ∧ z < x + k ∧ p z = true
  | 0, x => by simp [fromN]; omega
  | k + 1, x => by
    simp only [fromN]
    by_cases h : p x = true
    · rw [if_pos h, List.mem_cons, mem_fromN]
      constructor
      · rintro (rfl | q)
        · exact ⟨by omega, by omega, h⟩
        · exact ⟨by omega, by omega, q.2.2⟩
      · rintro ⟨q1, q2, q3⟩
        by_cases e : z = x
        · exact .inl e
        · exact .inr ⟨by omega, by omega, q3⟩
    · rw [if_neg h, mem_fromN]
      constructor
      · rintro ⟨q1, q2, q3⟩; exact ⟨by omega, by omega, q3⟩
      · rintro ⟨q1, q2, q3⟩
        have : z ≠ x := fun e => h (by rw [← e]; exact q3)
        exact ⟨by omega, by omega, q3⟩

theorem fromN_sorted {p : Int → Bool} : ∀ {k : Nat} {x : Int}, (fromN p k x).Pairwise (· < ·)
  | 0, x => by simp [fromN]
  | k + 1, x => by
    simp only [fromN]
    split
    · exact List.pairwise_cons.2 ⟨fun z hz => by have := (mem_fromN.1 hz).1; omega, fromN_sorted⟩
    · exact fromN_sorted

theorem mem_kidsN {b z : Int} : ∀ {l : List Int} {i : Nat}, z ∈ kidsN b i l ↔ ∃ j : Nat, l[j]? = some b ∧ z = i + j + 1
  | [], i => by simp [kidsN]
  | x :: r, i => by
    simp only [kidsN]
    have ih := mem_kidsN (b := b) (z := z) (l := r) (i := i + 1)
    have tail : (z ∈ kidsN b (i + 1) r) ↔ ∃ j : Nat, (x :: r)[j + 1]? = some b ∧ z = i + (j + 1 : Nat) + 1 := by
      rw [ih]
      constructor
      · rintro ⟨j, h1, h2⟩; exact ⟨j, by simpa using h1, by omega⟩
      · rintro ⟨j, h1, h2⟩; exact ⟨j, by simpa using h1, by omega⟩
    by_cases h : x = b
    · rw [if_pos h, List.mem_cons, tail]
      constructor
      · rintro (q | ⟨j, h1, h2⟩)
        · exact ⟨0, by simp [h], by omega⟩
        · exact ⟨j + 1, h1, h2⟩
      · rintro ⟨j, h1, h2⟩
        cases j with
        | zero => exact .inl (by omega)
        | succ j => exact .inr ⟨j, h1, h2⟩
    · rw [if_neg h, tail]
      constructor
      · rintro ⟨j, h1, h2⟩; exact ⟨j + 1, h1, h2⟩
      · rintro ⟨j, h1, h2⟩
        cases j with
        | zero => simp at h1; exact absurd h1 h
        | succ j => exact ⟨j, h1, h2⟩

theorem kidsN_sorted {b : Int} : ∀ {l : List Int} {i : Nat}, (kidsN b i l).Pairwise (· < ·)
  | [], i => by simp [kidsN]
  | x :: r, i => by
    simp only [kidsN]
    split
    · exact List.pairwise_cons.2 ⟨fun z hz => by obtain ⟨j, _, e⟩ := mem_kidsN.1 hz; omega, kidsN_sorted⟩
    · exact kidsN_sorted

end
end Go.Proofs.Ytchmlbjjadlleaa

/-! The plain law of TurnWaits: which brokers lie behind which. -/
namespace Go.Proofs.Ytchmlbjjadlleaa
open Go.Ab

section
variable {ys : List Int} (ok : TreeOk ys) (h7 : ys.length ≤ 7)
include ok h7

theorem isT_in {b : Int} (h0 : 0 ≤ b) (hl : b ≤ ys.length) : isT ys b = true := by
  have hr : rightT ys = true := by
    unfold rightT
    simp only [Bool.and_eq_true, decide_eq_true_eq]
    refine ⟨(rightFrom_all ys 0).2 fun i z hz => ?_, h7⟩
    have := ok i z hz
    simpa using this
  unfold isT; simp [hr, h0, hl]

theorem path_up {b : Int} (h0 : 0 ≤ b) (hl : b ≤ ys.length) : pathF ys b 0 = upF ys b := by
  obtain ⟨z, hz⟩ := U_last ok b.toNat b (by omega) h0 hl
  have := path_of ok h7 h0 hl (Int.le_refl 0) (by omega) (c := 0) (x := z) (y := []) ⟨by rw [hz]; rfl, rfl, by omega, by omega, .inr (.inl rfl)⟩
  rw [this, hz]
  rfl
theorem next_up {b : Int} (h0 : 0 < b) (hl : b ≤ ys.length) : nextF ys b 0 = parF ys b := by
  have p := par_lt ok h0 hl
  have t1 := isT_in ok h7 (b := b) (by omega) hl
  have t2 := isT_in ok h7 (b := 0) (by omega) (by omega)
  unfold nextF
  rw [if_pos ⟨t1, t2, by omega⟩, path_up ok h7 (by omega) hl, U_cons ok h0 hl]
  obtain ⟨t, ht⟩ := U_head ok (parF ys b) p.1 (by omega)
  rw [ht]
  rfl
omit ok h7 in
theorem next_root : nextF ys 0 0 = -1 := by
  unfold nextF
  rw [if_neg (by simp)]
omit h7 in
theorem up_le {a x : Int} (h0 : 0 ≤ a) (hl : a ≤ ys.length) (hx : x ∈ upF ys a) : 0 ≤ x ∧ x ≤ a := by
  obtain ⟨s, t, e⟩ := List.append_of_mem hx
  exact (U_suffix ok s a x t h0 hl e).2

/-- What lies on b's side, as its parent sees it, has b above it. -/
theorem side_up {b x : Int} (h0 : 0 < b) (hl : b ≤ ys.length) (hx : x ∈ sideF ys (parF ys b) b) : 0 ≤ x ∧ x ≤ ys.length ∧ b ∈ upF ys x := by
  have p := par_lt ok h0 hl
  unfold sideF at hx
  rw [if_pos (by omega)] at hx
  obtain ⟨q1, q2, q3⟩ := mem_fromN.1 hx
  have hxl : x ≤ ys.length := by omega
  refine ⟨q1, hxl, ?_⟩
  simp only [decide_eq_true_eq] at q3
  unfold nextF at q3
  split at q3
  · obtain ⟨u, y, c, m, e⟩ := path_meet ok h7 p.1 (by omega) q1 hxl
    rw [e] at q3
    have low : ∀ z, z ∈ upF ys (parF ys b) → z ≠ b := fun z hz => by have := up_le ok p.1 (by omega) hz; omega
    cases u with
    | nil =>
      cases hy : y.reverse with
      | nil => rw [hy] at q3; simp at q3; omega
      | cons w r =>
        rw [hy] at q3
        simp at q3
        subst q3
        rw [m.eb]
        have : w ∈ y.reverse := by rw [hy]; simp
        simp at this
        simp [this]
    | cons u1 u =>
      exfalso
      cases u with
      | nil =>
        simp at q3
        refine low c ?_ q3
        obtain ⟨t, ht⟩ := U_head ok c m.c0 m.cl
        rw [m.ea, ht]
        simp
      | cons u2 u =>
        simp at q3
        refine low u2 ?_ q3
        rw [m.ea]
        simp
  · omega

omit h7 in
/-- What holds of a broker, and of all kids of whom it holds, holds of all behind it. -/
theorem all_behind {R : Nat → Prop} (k : ∀ b : Nat, R b → ∀ z, z ∈ kidsN b 0 ys → R z.toNat) {b : Nat} (hb : R b) : ∀ x : Nat, (x : Int) ≤ ys.length → (b : Int) ∈ upF ys x → R x := by
  intro x
  induction x using Nat.strongRecOn with
  | ind x ih =>
    intro hx hm
    by_cases h0 : 0 < x
    · rw [U_cons ok (by omega) hx] at hm
      have p := par_lt ok (a := (x : Int)) (by omega) hx
      rcases List.mem_cons.1 hm with q | q
      · have : b = x := by omega
        exact this ▸ hb
      · have r := ih (parF ys x).toNat (by omega) (by omega) (by rw [Int.toNat_of_nonneg p.1]; exact q)
        have := k _ r x (mem_kidsN.2 ⟨x - 1, ?_, by omega⟩)
        · simpa using this
        · have hlt : x - 1 < ys.length := by omega
          rw [Int.toNat_of_nonneg p.1]
          unfold parF
          rw [show ((x : Int) - 1).toNat = x - 1 by omega, List.getElem?_eq_getElem hlt]
          rfl
    · have : x = 0 := by omega
      subst this
      have e : upF ys ((0 : Nat) : Int) = [0] := rfl
      rw [e] at hm
      simp at hm
      subst hm
      exact hb
omit h7 in
theorem up_root {x : Int} (h0 : 0 ≤ x) (hl : x ≤ ys.length) : (0 : Int) ∈ upF ys x := by
  obtain ⟨z, hz⟩ := U_last ok x.toNat x (by omega) h0 hl
  rw [hz]; simp
omit ok h7 in
theorem par_kid {b : Int} (h0 : 0 < b) (hl : b ≤ ys.length) : b ∈ kidsN (parF ys b) 0 ys := by
  refine mem_kidsN.2 ⟨(b - 1).toNat, ?_, by omega⟩
  have hlt : (b - 1).toNat < ys.length := by omega
  unfold parF
  rw [List.getElem?_eq_getElem hlt]
  rfl
omit ok h7 in
theorem kid_par {z b : Int} (h : z ∈ kidsN b 0 ys) : parF ys z = b ∧ 0 < z ∧ z ≤ ys.length := by
  obtain ⟨j, e, rfl⟩ := mem_kidsN.1 h
  have := (List.getElem?_eq_some_iff.1 e).1
  unfold parF
  rw [show (((0 : Nat) : Int) + j + 1 - 1).toNat = j by omega, e]
  exact ⟨rfl, by omega, by omega⟩
end

/-- A list without twins, one place of which is told anew. -/
theorem map_set {f : Int → Bool} : ∀ {l : List Int} {i : Nat} {z : Int}, l.Pairwise (· < ·) → l[i]? = some z → (l.map f).set i true = l.map fun x => if x = z then true else f x := by
  intro l i z hs hi
  refine List.ext_getElem? fun j => ?_
  rw [List.getElem?_set, List.getElem?_map, List.getElem?_map]
  have hil := (List.getElem?_eq_some_iff.1 hi).1
  by_cases hj : i = j
  · subst hj
    rw [if_pos rfl, if_pos (by simpa using hil), hi]
    simp
  · rw [if_neg hj]
    cases hjv : l[j]? with
    | none => rfl
    | some w =>
      have hjl := (List.getElem?_eq_some_iff.1 hjv).1
      have : w ≠ z := by
        rw [← (List.getElem?_eq_some_iff.1 hjv).2, ← (List.getElem?_eq_some_iff.1 hi).2]
        rcases Nat.lt_or_gt_of_ne hj with q | q
        · have := List.pairwise_iff_getElem.1 hs i j hil hjl q
          omega
        · have := List.pairwise_iff_getElem.1 hs j i hjl hil q
          omega
      simp [this]

end Go.Proofs.Ytchmlbjjadlleaa
