/-
  Texts of a claim, merged: SqH, HandT, RefT, SqC, SqD, SqE, StampX, SqS, RefV4, EvX.
-/
import Derived.Test.YtbkfamdkdjajjaaM1
import Derived.Test.YtbkfamdkdjajjaaB2
import Derived.Test.YtbkfamdkdjajjaaRoom
import Derived.Test.YtbkfamdkdjajjaaSprecentorref9
import Derived.Test.YtbkfamdkdjajjaaSprecentorlaw14
import Derived.Test.YtbkfamdkdjajjaaB3
import Derived.Test.YtbkfamdkdjajjaaWrE
import Derived.Test.YtbkfamdkdjajjaaMak
import Derived.Test.YtbkfamdkdjajjaaSseq
import Derived.Test.YtbkfamdkdjajjaaEq2
set_option linter.unusedVariables false
set_option linter.unusedSimpArgs false
/-! precentorref9's Match, Walk. -/
namespace Go.Proofs.Ytbkfamdkdjajjaa
open Go.Ab

/-- An atom: two groups, a broker. -/
def atR : Rp (Int × Int × Int) := ⟨3, by decide, fun _ cs x => cs = [I x.1, I x.2.1, I x.2.2], fun h => by rw [h]; rfl, fun h => by rw [h]; rfl, fun h _ => h⟩
/-- The places of the atoms of one of m. -/
def walkN (m : List Int) : Nat → List (Int × Int × Int) → List Int
  | _, [] => []
  | i, a :: r => if (m.any (· == a.1) || m.any (· == a.2.1)) = true then (i : Int) :: walkN m (i + 1) r else walkN m (i + 1) r
def walkF (m : List Int) (l : List (Int × Int × Int)) : List Int := walkN m 0 l
theorem walkN_mem {m : List Int} {c : Int} : ∀ {l : List (Int × Int × Int)} {i : Nat}, c ∈ walkN m i l → (i : Int) ≤ c ∧ c < i + l.length
  | [], i, h => by simp [walkN] at h
  | a :: r, i, h => by
    unfold walkN at h
    split at h
    · rcases List.mem_cons.1 h with q | q
      · subst q; simp only [List.length_cons]; omega
      · have := walkN_mem q; simp only [List.length_cons]; omega
    · have := walkN_mem h; simp only [List.length_cons]; omega
theorem walkN_sorted {m : List Int} : ∀ {l : List (Int × Int × Int)} {i : Nat}, (walkN m i l).Pairwise (· < ·)
  | [], i => by simp [walkN]
  | a :: r, i => by
    unfold walkN
    split
    · exact List.Pairwise.cons (fun c hc => by have := walkN_mem hc; omega) walkN_sorted
    · exact walkN_sorted
theorem walkN_len {m : List Int} : ∀ {l : List (Int × Int × Int)} {i : Nat}, (walkN m i l).length ≤ l.length
  | [], i => by simp [walkN]
  | a :: r, i => by
    unfold walkN
    have := walkN_len (m := m) (l := r) (i := i + 1)
    split <;> simp <;> omega
theorem walkN_app {m : List Int} {a : Int × Int × Int} : ∀ {l : List (Int × Int × Int)} {i : Nat}, walkN m i (l ++ [a]) = walkN m i l ++ if (m.any (· == a.1) || m.any (· == a.2.1)) = true then [((i + l.length : Nat) : Int)] else []
  | [], i => by simp [walkN]
  | b :: r, i => by
    have ih := walkN_app (m := m) (a := a) (l := r) (i := i + 1)
    rw [List.cons_append]
    unfold walkN
    rw [ih]
    have e : i + 1 + r.length = i + (b :: r).length := by simp; omega
    rw [e]
    split <;> simp

section
variable {X : XTab}

theorem ref_Match (hX : OnlyKnown X) {h : Heap} {v av : AVal} {gs : List Gp} {ats : List Att} (o : Sl gpR h v gs) (hl : gs.length ≤ 1000) (hf : ∀ g, g ∈ gs → FedF g.fl) (oa : Sl attrR h av ats) (ha : ats.length ≤ 100) (hv : ∀ a, a ∈ ats → FedV a.2) :
    Tells (fun q => acallX Try.prog X q F_precentorref9_Match [v, av] h) fun r h' => ∃ m : List Int, Sl intR h' r m ∧ m.length ≤ gs.length ∧ Ext [] h h' := by
  refine R_precentorref9_Match _ _ (hX _ _ rfl) ?_
  refine Tells.prot fun Q' hQ => ?_
  unfold S_precentorref9_Match
  try simp
  refine Tells.bind (Tells.loop (fun n t g => ∃ (i : Nat) (m : List Int), t 0 = v ∧ t 1 = av ∧ t 6 = I i ∧ i + n = gs.length ∧ Gl intR h g (t 5) m ∧ m.length ≤ i ∧ Ext [] h g)
    (Q := fun p g => p.1 = .exit 0 ∧ ∃ m : List Int, Sl intR g (p.2 5) m ∧ m.length ≤ gs.length ∧ Ext [] h g) ?_ gs.length _ _ ⟨0, [], by simp, by simp, by simp, by omega, by simpa using Gl.nil, by simp, .refl⟩) ?_
  · rintro n t g ⟨i, m, t0, t1, t6, hi, gm, hlen, xg⟩
    refine Tells.prot fun Q2 hQ2 => ?_
    unfold L_precentorref9_Match_1
    have og := o.ext xg
    simp [t6, t0, og.len]
    refine Tells.cb (fun hc => ?_) (fun hc => ?_)
    · simp at hc
      obtain ⟨y, hy⟩ : ∃ y, gs[i]? = some y := ⟨_, List.getElem?_eq_getElem hc⟩
      obtain ⟨bb, p, B, fv, cv, q1, q2, q3, q4, q5, q6⟩ := gp_at og hy
      have w : IntKind.i64.wrap ((i : Int) + 1) = i + 1 := wrap_id (by omega) (by omega)
      have fy := hf y (List.mem_of_getElem? hy)
      simp [J_precentorref9_Match_2, t0, t1, t6, q1, q2, q3]
      refine Tells.bind (ref_Takes hX q5 fy.szn.1 fy.2.1 (oa.ext xg) ha hv) ?_
      rintro _ g1 ⟨⟨b, rfl⟩, x1⟩
      have X1 := xg.trans x1
      have gm1 := gm.e x1
      cases b with
      | true =>
        simp [t6]
        refine Tells.app1 gm1 (by rfl) (by rfl) (show intR.rep g1 [I i] (i : Int) from rfl) (by rfl) (by rfl) (by omega) (by decide) X1.next fun s2 g2 gm2 x2 y2 _ => ?_
        simp [J_precentorref9_Match_3, t6, w]
        exact Tells.ok (hQ2 _ _ (.inl ⟨rfl, n - 1, by omega, i + 1, m ++ [(i : Int)], by simp [t0], by simp [t1], by simp, by omega, by simpa using gm2, by simp; omega, y2 [] X1⟩))
      | false =>
        simp [J_precentorref9_Match_3, t6, w]
        exact Tells.ok (hQ2 _ _ (.inl ⟨rfl, n - 1, by omega, i + 1, m, by simp [t0], by simp [t1], by simp, by omega, by simpa using gm1, by omega, X1⟩))
    · exact Tells.ok (hQ2 _ _ (.inr ⟨by simp, rfl, m, by simpa using gm.1, by omega, xg⟩))
  · rintro ⟨ex, t⟩ g ⟨rfl, m, sm, hlen, xg⟩
    simp [J_precentorref9_Match_0]
    exact Tells.ok (hQ _ _ ⟨m, by simpa using sm, hlen, xg⟩)

theorem ref_Walk (hX : OnlyKnown X) {h : Heap} {v mv : AVal} {l : List (Int × Int × Int)} {m : List Int} (o : Sl atR h v l) (hl : l.length ≤ 2 ^ 20) (om : Sl intR h mv m) (hm : m.length ≤ 1000) :
    Tells (fun q => acallX Try.prog X q F_precentorref9_Walk [v, mv] h) fun r h' => Gl intR h h' r (walkF m l) ∧ Ext [] h h' := by
  refine R_precentorref9_Walk _ _ (hX _ _ rfl) ?_
  refine Tells.prot fun Q' hQ => ?_
  unfold S_precentorref9_Walk
  try simp
  refine Tells.bind (Tells.loop (fun n t g => ∃ (i : Nat), t 0 = v ∧ t 1 = mv ∧ t 6 = I i ∧ i + n = l.length ∧ Gl intR h g (t 5) (walkF m (l.take i)) ∧ Ext [] h g)
    (Q := fun p g => p.1 = .exit 0 ∧ Gl intR h g (p.2 5) (walkF m l) ∧ Ext [] h g) ?_ l.length _ _ ⟨0, by simp, by simp, by simp, by omega, by simpa [walkF, walkN] using Gl.nil, .refl⟩) ?_
  · rintro n t g ⟨i, t0, t1, t6, hi, gm, xg⟩
    refine Tells.prot fun Q2 hQ2 => ?_
    unfold L_precentorref9_Walk_1
    have og := o.ext xg
    have omg := om.ext xg
    simp [t6, t0, og.len]
    refine Tells.cb (fun hc => ?_) (fun hc => ?_)
    · simp at hc
      obtain ⟨y, hy⟩ : ∃ y, l[i]? = some y := ⟨_, List.getElem?_eq_getElem hc⟩
      obtain ⟨b1, p1, B1, c1, q1, q2, q3⟩ := og.at (n := 3) rfl (i := (i : Int)) (by omega) (by simpa using hy)
      have q3 : c1 = [I y.1, I y.2.1, I y.2.2] := q3
      subst q3
      have q40 := q2.cell0 (by simp)
      have q41 := q2.cell (k := 1) (by simp)
      simp at q40 q41
      have w : IntKind.i64.wrap ((i : Int) + 1) = i + 1 := wrap_id (by omega) (by omega)
      have hle : (walkF m (l.take i)).length ≤ 2 ^ 20 := Nat.le_trans walkN_len (by simp; omega)
      have tk : walkF m (l.take (i + 1)) = walkF m (l.take i) ++ if (m.any (· == y.1) || m.any (· == y.2.1)) = true then [(i : Int)] else [] := by
        rw [List.take_add_one, hy]
        unfold walkF
        rw [Option.toList_some, walkN_app]
        have : (l.take i).length = i := by simp; omega
        rw [this]
        simp
      simp [J_precentorref9_Walk_2, t0, t1, t6, q1, q2.get, q40]
      refine Tells.bind (ref_In hX omg (by omega) y.1) ?_
      rintro _ g ⟨rfl, rfl⟩
      cases e1 : m.any (· == y.1) with
      | true =>
        simp [t6]
        refine Tells.app1 gm (by rfl) (by rfl) (show intR.rep g [I i] (i : Int) from rfl) (by rfl) (by rfl) (by omega) (by decide) xg.next fun s2 g2 gm2 x2 y2 _ => ?_
        simp [J_precentorref9_Walk_3, t6, w]
        exact Tells.ok (hQ2 _ _ (.inl ⟨rfl, n - 1, by omega, i + 1, by simp [t0], by simp [t1], by simp, by omega, by rw [tk, if_pos (by simp [e1])]; simpa using gm2, y2 [] xg⟩))
      | false =>
        simp [t6, t0, t1, q1, q2.get, q41]
        refine Tells.bind (ref_In hX omg (by omega) y.2.1) ?_
        rintro _ g ⟨rfl, rfl⟩
        cases e2 : m.any (· == y.2.1) with
        | true =>
          simp [t6]
          refine Tells.app1 gm (by rfl) (by rfl) (show intR.rep g [I i] (i : Int) from rfl) (by rfl) (by rfl) (by omega) (by decide) xg.next fun s2 g2 gm2 x2 y2 _ => ?_
          simp [J_precentorref9_Walk_3, t6, w]
          exact Tells.ok (hQ2 _ _ (.inl ⟨rfl, n - 1, by omega, i + 1, by simp [t0], by simp [t1], by simp, by omega, by rw [tk, if_pos (by simp [e2])]; simpa using gm2, y2 [] xg⟩))
        | false =>
          simp [J_precentorref9_Walk_3, t6, w]
          exact Tells.ok (hQ2 _ _ (.inl ⟨rfl, n - 1, by omega, i + 1, by simp [t0], by simp [t1], by simp, by omega, by rw [tk, if_neg (by simp [e1, e2])]; simpa using gm, xg⟩))
    · simp at hc
      have hfl : l.take i = l := List.take_of_length_le (by omega)
      rw [hfl] at gm
      exact Tells.ok (hQ2 _ _ (.inr ⟨by simp, rfl, by simpa using gm, xg⟩))
  · rintro ⟨ex, t⟩ g ⟨rfl, sm, xg⟩
    simp [J_precentorref9_Walk_0]
    exact Tells.ok (hQ _ _ ⟨by simpa using sm, xg⟩)
end
end Go.Proofs.Ytbkfamdkdjajjaa

/-! What precentorhand's Tree tells. -/
namespace Go.Proofs.Ytbkfamdkdjajjaa
open Go.Ab

section
variable {X : XTab}

/-- Each parent lies ahead. -/
def TreeOk (ys : List Int) : Prop := ∀ (i : Nat) y, ys[i]? = some y → 0 ≤ y ∧ y ≤ i
theorem TreeOk.app {ys : List Int} {x : Int} (h : TreeOk ys) (h0 : 0 ≤ x) (h1 : x ≤ ys.length) : TreeOk (ys ++ [x]) := by
  intro i y hi
  rcases Nat.lt_or_ge i ys.length with k1 | k1
  · rw [List.getElem?_append_left k1] at hi; exact h i y hi
  · rw [List.getElem?_append_right k1] at hi
    have : i - ys.length = 0 := by
      cases hd : i - ys.length with
      | zero => rfl
      | succ m => rw [hd] at hi; simp at hi
    rw [this] at hi
    simp at hi
    subst hi
    exact ⟨h0, by omega⟩

theorem Tree (hX : OnlyKnown X) (most : Int) (hm : In64 most) (hm2 : most ≤ 1000) {h : Heap} {bf k : Nat} (f : Feed h bf k) (hk : k < 2 ^ 61) :
    Tells (fun q => acallX Try.prog X q F_precentorhand_Feed_Tree [.ptr bf 0, I most] h) fun v h' => ∃ ys : List Int, Gl intR h h' v ys ∧ TreeOk ys ∧ (1 ≤ most → (ys.length : Int) < most) ∧ ys.length ≤ 1000 ∧
      Ext [bf] h h' ∧ Feed h' bf (k + 1001) := by
  refine R_precentorhand_Feed_Tree _ _ (hX _ _ rfl) ?_
  refine Tells.prot fun Q' hQ => ?_
  unfold S_precentorhand_Feed_Tree
  simp
  refine Tells.bind (Next hX most hm f (by omega)) ?_
  rintro v h1 ⟨r, rfl, r0, r1, r2, e1, f1⟩
  have rb : r ≤ 1000 := by
    rcases Int.lt_or_le most 1 with q | q
    · rw [r2 q]; decide
    · have := r1 q; omega
  refine Tells.bind (Tells.loop (fun n t g => ∃ ys : List Int, t 0 = .ptr bf 0 ∧ t 6 = I (r - ys.length) ∧ Gl intR h g (t 5) ys ∧ TreeOk ys ∧ ys.length + n = r.toNat ∧ Ext [bf] h g ∧ Feed g bf (k + 1 + ys.length))
      (Q := fun p g => p.1 = .exit 0 ∧ ∃ ys : List Int, Gl intR h g (p.2 5) ys ∧ TreeOk ys ∧ ys.length = r.toNat ∧ Ext [bf] h g ∧ Feed g bf (k + 1 + ys.length)) ?_ r.toNat _ _ ?_) ?_
  · rintro n t g ⟨ys, t0, t6, o, hy, hn, e, fd⟩
    refine Tells.prot fun Q2 hQ2 => ?_
    unfold L_precentorhand_Feed_Tree_1
    simp [t6]
    refine Tells.cb (fun hc => ?_) (fun hc => ?_)
    · simp at hc
      have w : IntKind.i64.wrap ((ys.length : Int) + 1) = ys.length + 1 := wrap_id (by omega) (by omega)
      simp [J_precentorhand_Feed_Tree_2, t0, o.1.len, w]
      refine Tells.bind (Next hX _ ⟨by omega, by omega⟩ fd (by omega)) ?_
      rintro v h2 ⟨x, rfl, x0, x1, x2, e2, f2⟩
      have o2 := o.extO e2 (by simp [fd.m])
      try simp
      refine Tells.app1 o2 (by rfl) (by rfl) (show intR.rep h2 [I x] x from rfl) (by rfl) (by rfl) (by omega) (by decide) (e.trans e2).next fun s' h3 g3 x3 y3 z3 => ?_
      have w2 : IntKind.i64.wrap (r - (ys.length : Int) - 1) = r - (ys.length + 1) := by rw [wrap_id (by omega) (by omega)]; omega
      have f3 := f2.ext x3 fun q => by have := o2.1.blk _ q; rw [f2.m] at this; cases this.1
      simp [J_precentorhand_Feed_Tree_3, t6, w2]
      have := x1 (by omega)
      exact Tells.ok (hQ2 _ _ (.inl ⟨rfl, n - 1, by omega, ys ++ [x], by simp [t0], by simp, by simpa using g3, hy.app x0 (by omega), by simp; omega, y3 _ (e.trans e2), by simpa [Nat.add_assoc] using f3⟩))
    · simp at hc
      exact Tells.ok (hQ2 _ _ (.inr ⟨by simp, rfl, ys, by simpa using o, hy, by omega, e, fd⟩))
  · exact ⟨[], by simp, by simp, by simpa using Gl.nil, by simp [TreeOk], by simp, e1, f1⟩
  · rintro ⟨ex, t⟩ g ⟨rfl, ys, o, hy, hn, e, fd⟩
    simp [J_precentorhand_Feed_Tree_0]
    refine Tells.ok (hQ _ _ ⟨ys, by simpa using o, hy, fun q => ?_, ?_, e, fd.mono (by omega)⟩)
    · have := r1 q; omega
    · omega

end
end Go.Proofs.Ytbkfamdkdjajjaa

/-! precentorref9's RightTree, Dist, Place (printed by mkreft.py). -/
namespace Go.Ab

theorem app1_form {α : Type} {r : Rp α} {h0 h h' : Heap} {n by_ : Nat} {s s' : AVal} {xs : List α} {c : List AVal} (g : Gl r h0 h s xs) (hn : r.n = n) (hc : c.length = n) (e : appR n by_ (h.new false c) s (.sl h.next 0 1 1 n true) = .val s' h') : ∃ b len cap, s' = .sl b 0 len cap n false := by
  have hpos := r.pos
  have hsrc : aSource (h.new false c) n false (.sl h.next 0 1 1 n true) = some (1, c) := by
    simp only [aSource, Heap.cells, Heap.get_new, if_true]
    rw [if_neg (by simp), if_neg (by simp), if_pos (by omega)]
    simp [← hc]
  unfold appR at e
  rw [hsrc] at e
  rcases g.2 with rfl | ⟨b, off, len, cap, sz, ex, rfl, k⟩
  · simp only at e
    rw [if_neg (by omega)] at e
    split at e
    · cases e; exact ⟨_, _, _, rfl⟩
    · cases e
  · have hcap : len = cap := by rcases k with ⟨_, k⟩ | ⟨_, _, k, _⟩ <;> omega
    subst hcap
    simp only at e
    split at e
    · rw [if_neg (by omega)] at e
      split at e
      · split at e
        · cases e; exact ⟨_, _, _, rfl⟩
        · split at e
          · split at e
            · cases e; exact ⟨_, _, _, rfl⟩
            · cases e
          · cases e
      · cases e
    · cases e

section
variable {β : Type} {Q : β → Heap → Prop} {h : Heap} {call : Nat → FuncId → List AVal → Heap → Res AVal}
/-- append(s, x) to a row of one's own; what comes is a row that append told. -/
theorem Tells.app1F {α : Type} {r : Rp α} {h0 : Heap} {xs : List α} {s v : AVal} {c z : List AVal} {x : α} {n by_ : Nat} {k : Nat → AVal → AVal → Heap → Res β} (g : Gl r h0 h s xs) (wr : Wr h0 h s) (hv : v.cells = c) (hk : v.known = true) (hx : r.rep h c x) (hn : r.n = n) (hz : z.length = n) (hl : xs.length < 2 ^ 33)
    (hby : by_ ≤ 2 ^ 12) (hle : h0.next ≤ h.next) (q : ∀ s' h', Gl r h0 h' s' (xs ++ [x]) → Wr h0 h' s' → Ext s.blks h h' → (∀ S, Ext S h0 h → Ext S h0 h') → (∃ b len cap, s' = .sl b 0 len cap n false) → Tells (fun m => k m (.sl h.next 0 1 1 n true) s' h') Q) :
    Tells (fun m => arb (bslR n z 1 h [(0, n, v)]) (call m) fun a h2 => arb (appR n by_ h2 s a) (call m) (k m a)) Q := by
  subst hv
  have hc : v.cells.length = n := by rw [← hn]; exact r.len hx
  obtain ⟨s', h', q1, q2, q3, q4, q5⟩ := g.app1 (by_ := by_) hx hn hl hby hle
  have e1 := Ext.new h false v.cells
  simp only [bsl1 hz hk hc, arb_val, q1]
  exact q s' h' q2 (appR_wr q1 (wr.ext e1) (Nat.le_trans hle e1.next)) q3 q4 (app1_form g hn hc q1)
/-- A slice that is written down is a row of one's own. -/
theorem Tells.litW {α : Type} {r : Rp α} {xs : List α} {css : List (List AVal)} {n j : Nat} {z cells : List AVal} {parts : List (Nat × Nat × AVal)} {k : Nat → AVal → Heap → Res β} (hn : r.n = n) (o : All2 (r.rep h) css xs) (hk : xs.length = j) (hc : css.flatten = cells)
    (e : bslR n z j h parts = .val (.sl h.next 0 j j n true) (h.new false cells)) (q : ∀ v h1, Gl r h h1 v xs → Wr h h1 v → Ext [] h h1 → Tells (fun m => k m v h1) Q) : Tells (fun m => arb (bslR n z j h parts) (call m) (k m)) Q := by
  simp only [e, arb_val]
  have g := (Sl.lit (h0 := h) hn o hk hc).2
  refine q _ _ g (fun b hb => ?_) (Ext.new _ _ _)
  have hl := (g.1.blk b hb).2
  simp [AVal.blks] at hb
  subst hb
  refine ⟨?_, n0_le h, hl⟩
  unfold Heap.root
  rw [Heap.cls_new, Heap.cls_ge (Nat.le_refl _)]
  exact Nat.le_refl _
end
end Go.Ab

namespace Go.Proofs.Ytbkfamdkdjajjaa
open Go.Ab

/-- A broker, its parent, and so on up to the root (k steps at most). -/
def upN : Nat → List Int → Int → List Int
  | 0, _, b => [b]
  | k + 1, ys, b => if 0 < b then b :: upN k ys (ys[(b - 1).toNat]?.getD 0) else [b]
def upF (ys : List Int) (b : Int) : List Int := upN b.toNat ys b

theorem upN_fuel {ys : List Int} (ok : TreeOk ys) : ∀ (k : Nat) (b : Int), b ≤ k → b ≤ ys.length → upN k ys b = upN (k + 1) ys b
  | 0, b, h, _ => by simp [upN, show ¬ 0 < b by omega]
  | k + 1, b, h, hb => by
    by_cases p : 0 < b
    · have hlt : (b - 1).toNat < ys.length := by omega
      have e : ys[(b - 1).toNat]? = some ys[(b - 1).toNat] := List.getElem?_eq_getElem hlt
      have := ok _ _ e
      obtain ⟨y, hy⟩ : ∃ y, ys[(b - 1).toNat]?.getD 0 = y := ⟨_, rfl⟩
      have hy2 : 0 ≤ y ∧ y ≤ ((b - 1).toNat : Int) := by rw [← hy, e]; exact this
      have ih := upN_fuel ok k (ys[(b - 1).toNat]?.getD 0) (by rw [hy]; omega) (by rw [hy]; omega)
      unfold upN
      rw [if_pos p, if_pos p, ih]
    · simp [upN, p]
theorem upF_step {ys : List Int} (ok : TreeOk ys) {b y : Int} (hb : 0 < b) (hl : b ≤ ys.length) (hy : ys[(b - 1).toNat]? = some y) : upF ys b = b :: upF ys y := by
  have hy2 := ok _ _ hy
  have grow : ∀ (d k : Nat) (c : Int), c ≤ k → c ≤ ys.length → upN (k + d) ys c = upN k ys c := by
    intro d
    induction d with
    | zero => intro k c _ _; rfl
    | succ d ih => intro k c h1 h2; rw [← Nat.add_assoc, ← upN_fuel ok (k + d) c (by omega) h2]; exact ih k c h1 h2
  unfold upF
  obtain ⟨k, hk⟩ : ∃ k, b.toNat = k + 1 := ⟨b.toNat - 1, by omega⟩
  rw [hk]
  conv => lhs; unfold upN
  rw [if_pos hb, hy]
  simp only [Option.getD_some]
  congr 1
  have : k = y.toNat + (k - y.toNat) := by omega
  rw [this]
  exact grow _ _ _ (by omega) (by omega)

def trim : Nat → List Int → List Int → List Int × List Int
  | 0, x, y => (x, y)
  | k + 1, x, y => if 1 < x.length ∧ 1 < y.length ∧ x[x.length - 2]? = y[y.length - 2]? then trim k x.dropLast y.dropLast else (x, y)
def pathF (ys : List Int) (a b : Int) : List Int := (trim 9 (upF ys a) (upF ys b)).1 ++ (trim 9 (upF ys a) (upF ys b)).2.dropLast.reverse

/-- A row that append takes, or that was cut at its end. -/
def Ap (h0 h : Heap) (m : Nat) (v : AVal) (xs : List Int) : Prop := Sl intR h v xs ∧ (Gro h0 h 1 v ∨ ∃ c len cap, v = .sl c 0 len cap 1 false ∧ len < cap ∧ Rm h0 h 1 v ∧ h.root c < m)

theorem cut_form {c len cap hi : Nat} (h : hi ≤ len) (h2 : len ≤ cap) : slcR 1 (.sl c 0 len cap 1 false) none (some (I hi)) none = some (.sl c 0 hi cap 1 false) := by
  have e1 : (hi : Int) ≤ (len : Int) := by omega
  have e2 : (hi : Int) ≤ (cap : Int) := by omega
  simp [slcR, aBoundO, aBound, e1, e2]

section
variable {β : Type} {Q : β → Heap → Prop} {h : Heap} {call : Nat → FuncId → List AVal → Heap → Res AVal}
theorem apOne {h0 : Heap} {m : Nat} {xs : List Int} {s : AVal} {x : Int} {k : Nat → AVal → AVal → Heap → Res β} (a : Ap h0 h m s xs) (hl : xs.length < 2 ^ 33) (hle : h0.next ≤ h.next)
    (q : ∀ s' h', Ap h0 h' m s' (xs ++ [x]) → (∀ S, Ext S h0 h → Ext S h0 h') → (∀ (u : AVal) (us : List Int), Sl intR h u us → (∀ b, b ∈ u.blks → m ≤ h.root b) → Sl intR h' u us ∧ ∀ b, b ∈ u.blks → m ≤ h'.root b) → Tells (fun m => k m (.sl h.next 0 1 1 1 true) s' h') Q) :
    Tells (fun m => arb (bslR 1 [.int .i64 0] 1 h [(0, 1, I x)]) (call m) fun a h2 => arb (appR 1 8 h2 s a) (call m) (k m a)) Q := by
  obtain ⟨o, g | ⟨c, len, cap, rfl, hlt, rm, hr⟩⟩ := a
  · refine Tells.app1 (r := intR) (h0 := h0) ⟨o, g⟩ (by rfl) (by rfl) (show intR.rep h [I x] x from rfl) (by rfl) (by rfl) hl (by decide) hle fun s' h' g' x' y' z' => ?_
    exact q s' h' ⟨g'.1, .inl g'.2⟩ y' (fun u us ou hu => ⟨ou.ext x', fun b hb => by rw [root_ext x' (ou.blk b hb).2]; exact hu b hb⟩)
  · obtain ⟨h', e, o', rm', y', hcls, ob', fr⟩ := rm.put1 (r := intR) (by_ := 8) (x := x) (c := [I x]) (fun q => q) o hlt rfl rfl
    simp only [bsl1 (n := 1) (z := [.int .i64 0]) (x := I x) rfl rfl rfl, arb_val]
    have e' : appR 1 8 (h.new false (I x).cells) (.sl c 0 len cap 1 false) (.sl h.next 0 1 1 1 true) = .val (.sl c 0 (len + 1) cap 1 false) h' := e
    rw [e']
    simp only [arb_val]
    have hc : c < h.next := (o.blk c (by simp [AVal.blks])).2
    refine q _ h' ⟨o', ?_⟩ y' fun u us ou hu => ⟨fr u us m ou hu hr, fun b hb => by rw [hcls b]; exact hu b hb⟩
    by_cases hf : len + 1 = cap
    · subst hf
      exact .inl rm'.gro
    · exact .inr ⟨c, len + 1, cap, rfl, by omega, rm', by rw [hcls c]; exact hr⟩
end

section
variable {X : XTab}

theorem trim_len : ∀ (k : Nat) (x y : List Int), (trim k x y).2.length ≤ y.length
  | 0, _, _ => Nat.le_refl _
  | k + 1, x, y => by
    simp only [trim]
    split
    · have := trim_len k x.dropLast y.dropLast
      simp at this; omega
    · exact Nat.le_refl _
theorem trim_len1 : ∀ (k : Nat) (x y : List Int), (trim k x y).1.length ≤ x.length
  | 0, _, _ => Nat.le_refl _
  | k + 1, x, y => by
    simp only [trim]
    split
    · have := trim_len1 k x.dropLast y.dropLast
      simp at this; omega
    · exact Nat.le_refl _
theorem upN_len : ∀ (k : Nat) (ys : List Int) (b : Int), 1 ≤ (upN k ys b).length ∧ (upN k ys b).length ≤ k + 1
  | 0, ys, b => by simp [upN]
  | k + 1, ys, b => by
    simp only [upN]
    split
    · have := upN_len k ys (ys[(b - 1).toNat]?.getD 0)
      simp only [List.length_cons]; omega
    · simp

end
def rightFrom : Nat → List Int → Bool
  | _, [] => true
  | i, x :: r => (decide (0 ≤ x) && decide (x ≤ i)) && rightFrom (i + 1) r
def rightT (xs : List Int) : Bool := rightFrom 0 xs && decide (xs.length ≤ 7)
theorem rightFrom_all : ∀ (xs : List Int) (n : Nat), rightFrom n xs = true ↔ ∀ (i : Nat) x, xs[i]? = some x → 0 ≤ x ∧ x ≤ ((n + i : Nat) : Int)
  | [], n => by simp [rightFrom]
  | y :: r, n => by
    simp only [rightFrom, Bool.and_eq_true, decide_eq_true_eq, rightFrom_all r (n + 1)]
    constructor
    · rintro ⟨⟨a, b⟩, c⟩ i x hx
      cases i with
      | zero => simp at hx; subst hx; exact ⟨a, by omega⟩
      | succ i => have := c i x (by simpa using hx); exact ⟨this.1, by omega⟩
    · intro k
      refine ⟨?_, fun i x hx => ?_⟩
      · have := k 0 y rfl; exact ⟨this.1, by omega⟩
      · have := k (i + 1) x (by simpa using hx); exact ⟨this.1, by omega⟩
theorem rightFrom_drop {xs : List Int} {i : Nat} {x : Int} (hx : xs[i]? = some x) : rightFrom i (xs.drop i) = ((decide (0 ≤ x) && decide (x ≤ i)) && rightFrom (i + 1) (xs.drop (i + 1))) := by
  have hlt : i < xs.length := (List.getElem?_eq_some_iff.1 hx).1
  rw [List.drop_eq_getElem_cons hlt]
  have : xs[i] = x := (List.getElem?_eq_some_iff.1 hx).2
  rw [this]
  rfl
def isT (ys : List Int) (b : Int) : Bool := rightT ys && decide (0 ≤ b) && decide (b ≤ ys.length)
theorem isT_ok {ys : List Int} {b : Int} (h : isT ys b = true) : TreeOk ys ∧ ys.length ≤ 7 ∧ 0 ≤ b ∧ b ≤ ys.length := by
  unfold isT rightT at h
  simp only [Bool.and_eq_true, decide_eq_true_eq] at h
  refine ⟨fun i y hy => ?_, h.1.1.2, h.1.2, h.2⟩
  have := (rightFrom_all ys 0).1 h.1.1.1 i y hy
  simpa using this
theorem pathF_len (ys : List Int) (a b : Int) : (pathF ys a b).length ≤ a.toNat + b.toNat + 2 := by
  unfold pathF
  have h1 := trim_len1 9 (upF ys a) (upF ys b)
  have h2 := trim_len 9 (upF ys a) (upF ys b)
  have h3 := (upN_len a.toNat ys a).2
  have h4 := (upN_len b.toNat ys b).2
  change (upF ys a).length ≤ _ at h3
  change (upF ys b).length ≤ _ at h4
  simp
  omega
def distF (ys : List Int) (a b : Int) : Int := if isT ys a = true ∧ isT ys b = true then ((pathF ys a b).length : Int) - 1 else -1
theorem distF_le (ys : List Int) (a b : Int) : -1 ≤ distF ys a b ∧ distF ys a b ≤ 16 := by
  unfold distF
  split
  · rename_i h
    obtain ⟨_, k2, k3, k4⟩ := isT_ok h.1
    obtain ⟨_, _, k5, k6⟩ := isT_ok h.2
    have := pathF_len ys a b
    omega
  · omega
def sumG (ys : List Int) (x : Int) : Int → List Int → Option Int
  | s, [] => some s
  | s, y :: r => if distF ys x y < 0 then none else sumG ys x (s + distF ys x y) r
def placeN (ys l : List Int) : Nat → Int → Int → Int → Int
  | 0, _, best, _ => best
  | k + 1, x, best, least => match sumG ys x 0 l with
    | none => -1
    | some s => if best < 0 ∨ s < least then placeN ys l k (x + 1) x s else placeN ys l k (x + 1) best least
def placeF (ys l : List Int) : Int := if l.length = 0 then -1 else placeN ys l (ys.length + 1) 0 (-1) 0
def sumA (ys : List Int) (x : Int) (l : List Int) : Int := (l.map (distF ys x)).foldr (· + ·) 0
theorem trim_ne : ∀ (k : Nat) (x y : List Int), 1 ≤ x.length → 1 ≤ (trim k x y).1.length
  | 0, _, _, h => h
  | k + 1, x, y, h => by
    simp only [trim]
    split
    · rename_i hh
      exact trim_ne k x.dropLast y.dropLast (by simp; omega)
    · exact h
theorem distF_ge {ys : List Int} {a b : Int} (ha : isT ys a = true) (hb : isT ys b = true) : 0 ≤ distF ys a b := by
  unfold distF
  rw [if_pos ⟨ha, hb⟩]
  have h1 := trim_ne 9 (upF ys a) (upF ys b) (upN_len _ _ _).1
  unfold pathF
  simp
  omega
theorem sumG_all {ys : List Int} {x : Int} (hx : isT ys x = true) : ∀ (l : List Int) (s : Int), (∀ y, y ∈ l → isT ys y = true) → sumG ys x s l = some (s + sumA ys x l)
  | [], s, _ => by simp [sumG, sumA]
  | y :: r, s, h => by
    have h1 := distF_ge hx (h y (by simp))
    have ih := sumG_all hx r (s + distF ys x y) (fun z hz => h z (by simp [hz]))
    simp only [sumG]
    rw [if_neg (by omega), ih]
    have e : sumA ys x (y :: r) = distF ys x y + sumA ys x r := rfl
    rw [e, Int.add_assoc]
theorem isT_of {ys : List Int} {b c : Int} (h : isT ys b = true) (h0 : 0 ≤ c) (hl : c ≤ ys.length) : isT ys c = true := by
  unfold isT at h ⊢
  simp only [Bool.and_eq_true, decide_eq_true_eq] at h ⊢
  exact ⟨⟨h.1.1, h0⟩, hl⟩
theorem dist_bad {ys : List Int} {x y : Int} (h : isT ys y = false) : distF ys x y = -1 := by unfold distF; rw [if_neg (by simp [h])]
theorem sumG_none {ys : List Int} {x y : Int} (h : distF ys x y < 0) : ∀ (l : List Int) (s : Int), y ∈ l → sumG ys x s l = none
  | [], _, hy => by simp at hy
  | z :: r, s, hy => by
    simp only [sumG]
    by_cases hz : distF ys x z < 0
    · rw [if_pos hz]
    · rw [if_neg hz]
      rcases List.mem_cons.1 hy with q | q
      · subst q; exact absurd h hz
      · exact sumG_none h r _ q
theorem place_bad {ys l : List Int} {y : Int} (hy : y ∈ l) (h : isT ys y = false) : placeF ys l = -1 := by
  unfold placeF
  have hl : l.length ≠ 0 := by intro q; have := List.eq_nil_of_length_eq_zero q; subst this; simp at hy
  rw [if_neg hl]
  have := sumG_none (x := 0) (by rw [dist_bad h]; decide) l 0 hy
  simp only [placeN, this]
section
variable {X : XTab}
theorem RightTree (hX : OnlyKnown X) {h : Heap} {v : AVal} {xs : List Int} (o : Sl intR h v xs) (hl : xs.length < 2 ^ 62) :
    Tells (fun q => acallX Try.prog X q F_precentorref9_RightTree [v] h) fun r h' => r = .bool (rightT xs) ∧ h' = h := by
  refine R_precentorref9_RightTree _ (hX _ _ rfl) ?_
  unfold S_precentorref9_RightTree
  simp
  refine Tells.bind (Tells.loop (fun n t g => ∃ i : Nat, t 0 = v ∧ t 3 = I i ∧ i + n = xs.length ∧ rightFrom 0 xs = rightFrom i (xs.drop i) ∧ g = h)
      (Q := fun p g => g = h ∧ ((p.1 = .exit 0 ∧ rightFrom 0 xs = true ∧ p.2 0 = v) ∨ (p.1 = .ret ∧ rightFrom 0 xs = false ∧ p.2 2 = .bool false))) ?_ xs.length _ _ ?_) ?_
  · rintro n t g ⟨i, t0, t7, hi, hr, rfl⟩
    refine Tells.prot fun Q' hQ => ?_
    unfold L_precentorref9_RightTree_1
    simp [t0, t7, o.len]
    refine Tells.cb (fun hc => ?_) (fun hc => ?_)
    · simp at hc
      obtain ⟨x, hx⟩ : ∃ x, xs[i]? = some x := ⟨_, List.getElem?_eq_getElem hc⟩
      obtain ⟨b, p, cs, a1, a2, a3⟩ := o.atI hx
      have hd := rightFrom_drop hx
      simp [J_precentorref9_RightTree_2, t0, t7, a1, a2, a3]
      by_cases h1 : x < 0
      · simp [h1]
        exact Tells.ok (hQ _ _ (.inr ⟨by simp, rfl, .inr ⟨rfl, by rw [hr, hd]; simp; omega, by simp⟩⟩))
      · simp [h1, t0, t7, a1, a2, a3]
        refine Tells.cb (fun hc2 => ?_) (fun hc2 => ?_)
        · simp at hc2
          exact Tells.ok (hQ _ _ (.inr ⟨by simp, rfl, .inr ⟨rfl, by rw [hr, hd]; simp; omega, by simp⟩⟩))
        · simp at hc2
          have w : IntKind.i64.wrap ((i : Int) + 1) = ((i + 1 : Nat) : Int) := by rw [wrap_id (by omega) (by omega)]; omega
          simp [J_precentorref9_RightTree_3, t7, w]
          refine Tells.ok (hQ _ _ (.inl ⟨rfl, n - 1, by omega, i + 1, by simp [t0], by simp, by omega, ?_, rfl⟩))
          rw [hr, hd]
          have e1 : decide (0 ≤ x) = true := by simp; omega
          have e2 : decide (x ≤ (i : Int)) = true := by simp; omega
          rw [e1, e2]; rfl
    · simp at hc
      refine Tells.ok (hQ _ _ (.inr ⟨by simp, rfl, .inl ⟨rfl, ?_, by simp [t0]⟩⟩))
      rw [hr, List.drop_eq_nil_of_le (by omega)]; rfl
  · exact ⟨0, by simp, by simp, by omega, by simp, rfl⟩
  · rintro ⟨ex, t⟩ g ⟨rfl, q | q⟩
    · obtain ⟨rfl, q1, q2⟩ := q
      simp at q2
      simp [J_precentorref9_RightTree_0, q2, o.len]
      refine Tells.ok ⟨?_, rfl⟩
      simp [rightT, q1]
      omega
    · obtain ⟨rfl, q1, q2⟩ := q
      simp at q2
      simp [q2]
      exact Tells.ok ⟨by simp [rightT, q1], rfl⟩
theorem ref_up (hX : OnlyKnown X) {h : Heap} {v : AVal} {ys : List Int} (o : Sl intR h v ys) (ok : TreeOk ys) (hl : ys.length ≤ 7) {b : Int} (h0 : 0 ≤ b) (hb : b ≤ ys.length) :
    Tells (fun q => acallX Try.prog X q F_precentorref9_up [v, I b] h) fun a h' => Gl intR h h' a (upF ys b) ∧ Wr h h' a ∧ (1 < (upF ys b).length → ∃ c len cap, a = .sl c 0 len cap 1 false) ∧ Ext [] h h' := by
  refine R_precentorref9_up _ _ (hX _ _ rfl) ?_
  refine Tells.prot fun Q' hQ => ?_
  unfold S_precentorref9_up
  simp
  refine Tells.litW (r := intR) (xs := [b]) (css := [[I b]]) (by rfl) ⟨rfl, trivial⟩ (by rfl) (by rfl) (bsl1_int _ _ _ _) fun w h1 g1 wr1 x1 => ?_
  try simp
  refine Tells.bind (Tells.loop (fun n t g => ∃ (y : Int) (pre : List Int), t 0 = v ∧ t 1 = I y ∧ 0 ≤ y ∧ y ≤ n ∧ y ≤ ys.length ∧ pre.length + n ≤ 7 ∧ upF ys b = pre ++ upF ys y ∧ Gl intR h g (t 5) (pre ++ [y]) ∧ Wr h g (t 5) ∧ (1 < (pre ++ [y]).length → ∃ c len cap, t 5 = .sl c 0 len cap 1 false) ∧ Ext [] h g)
    (Q := fun p g => p.1 = .exit 0 ∧ Gl intR h g (p.2 5) (upF ys b) ∧ Wr h g (p.2 5) ∧ (1 < (upF ys b).length → ∃ c len cap, p.2 5 = .sl c 0 len cap 1 false) ∧ Ext [] h g) ?_ ys.length _ _ ?_) ?_
  · rintro n t g ⟨y, pre, t0, t1, y0, yn, yl, pl, hu, go, wr, fm, x⟩
    refine Tells.prot fun Q2 hQ2 => ?_
    have og := o.ext x
    unfold L_precentorref9_up_1
    simp [t1]
    refine Tells.cb (fun hc => ?_) (fun hc => ?_)
    · simp at hc
      obtain ⟨z, hz⟩ : ∃ z, ys[(y - 1).toNat]? = some z := ⟨_, List.getElem?_eq_getElem (by omega)⟩
      have hz2 := ok _ _ hz
      have e1 : (((y - 1).toNat : Nat) : Int) = y - 1 := by omega
      obtain ⟨bb, pp, B, q1, q2, q3⟩ := og.atI hz
      rw [e1] at q1
      have w : IntKind.i64.wrap (y - 1) = y - 1 := wrap_id (by omega) (by omega)
      simp [J_precentorref9_up_2, t0, t1, w, q1, q2, q3]
      refine Tells.app1F go wr (by rfl) (by rfl) (show intR.rep g [I z] z from rfl) (by rfl) (by rfl) (by simp; omega) (by decide) x.next fun s3 h3 g3 w3 x3 y3 f3 => ?_
      try simp
      refine Tells.ok (hQ2 _ _ (.inl ⟨rfl, n - 1, by omega, z, pre ++ [y], by simp [t0], by simp, by omega, by omega, by omega, by simp; omega, ?_, by simpa using g3, by simpa using w3, fun _ => by simpa using f3, y3 [] x⟩))
      rw [hu, upF_step ok hc yl hz]
      simp
    · simp at hc
      have hy : y = 0 := by omega
      have e : upF ys y = [y] := by subst hy; rfl
      rw [e] at hu
      exact Tells.ok (hQ2 _ _ (.inr ⟨by simp, rfl, by rw [hu]; simpa using go, by simpa using wr, fun hl => by simpa using fm (by rw [← hu]; exact hl), x⟩))
  · exact ⟨b, [], by simp, by simp, h0, hb, hb, by simpa using hl, rfl, by simpa using g1, by simpa using wr1, fun q => by simp at q, x1⟩
  · rintro ⟨ex, t⟩ g ⟨rfl, go, wr, fm, x⟩
    simp [J_precentorref9_up_0]
    exact Tells.ok (hQ _ _ ⟨go, wr, fm, x⟩)
theorem ref_Way (hX : OnlyKnown X) {h : Heap} {v : AVal} {ys : List Int} (o : Sl intR h v ys) (ok : TreeOk ys) (hl : ys.length ≤ 7) {a b : Int} (a0 : 0 ≤ a) (al : a ≤ ys.length) (b0 : 0 ≤ b) (bl : b ≤ ys.length) :
    Tells (fun q => acallX Try.prog X q F_precentorref9_Way [v, I a, I b] h) fun r h' => Sl intR h' r (pathF ys a b) ∧ Ext [] h h' := by
  refine R_precentorref9_Way _ _ _ (hX _ _ rfl) ?_
  refine Tells.prot fun Q' hQ => ?_
  unfold S_precentorref9_Way
  simp
  refine Tells.bind (ref_up hX o ok hl a0 al) ?_
  rintro va h1 ⟨ga, wa, fa, x1⟩
  try simp
  refine Tells.bind (ref_up hX (o.ext x1) ok hl b0 bl) ?_
  rintro vb h2 ⟨gb, wb, fb, x2⟩
  have x12 := x1.trans x2
  have ga2 := ga.e x2
  have la := upN_len a.toNat ys a
  have lb := upN_len b.toNat ys b
  have hpath : pathF ys a b = (trim 9 (upF ys a) (upF ys b)).1 ++ (trim 9 (upF ys a) (upF ys b)).2.dropLast.reverse := rfl
  change 1 ≤ (upF ys a).length ∧ (upF ys a).length ≤ _ at la
  change 1 ≤ (upF ys b).length ∧ (upF ys b).length ≤ _ at lb
  generalize upF ys a = xs at *
  generalize upF ys b = zs at *
  generalize hT : trim 9 xs zs = T0 at *
  have apa : Ap h h2 h1.next va xs := ⟨ga2.1, .inl ga2.2⟩
  try simp
  refine Tells.bind (Tells.loop (fun n t g => ∃ (x z : List Int) (p q : AVal), g = h2 ∧ t 7 = p ∧ t 8 = q ∧ x.length ≤ n ∧ n ≤ 9 ∧ 1 ≤ x.length ∧ 1 ≤ z.length ∧ z.length ≤ 9 ∧ trim n x z = T0 ∧ Ap h h2 h1.next p x ∧ (1 < x.length → ∃ c len cap, p = .sl c 0 len cap 1 false ∧ x.length = len ∧ len ≤ cap) ∧ (∀ b, b ∈ p.blks → h2.root b < h1.next) ∧ Sl intR h2 q z ∧ (1 < z.length → ∃ c len cap, q = .sl c 0 len cap 1 false ∧ z.length = len ∧ len ≤ cap) ∧ ∀ b, b ∈ q.blks → h1.next ≤ h2.root b)
    (Q := fun r g => r.1 = .exit 0 ∧ g = h2 ∧ Ap h h2 h1.next (r.2 7) T0.1 ∧ Sl intR h2 (r.2 8) T0.2 ∧ 1 ≤ T0.2.length ∧ T0.2.length ≤ 9 ∧ ∀ b, b ∈ (r.2 8).blks → h1.next ≤ h2.root b) ?_ 9 _ _ ?_) ?_
  · rintro n t g ⟨x, z, p, q, rfl, t7, t8, xn, n9, x1', z1', z9, ht, ap, fx, rx, sq, fz, rz⟩
    refine Tells.prot fun Q2 hQ2 => ?_
    have stop : ∀ t2 : T, t2 7 = p → t2 8 = q → ¬ (1 < x.length ∧ 1 < z.length ∧ x[x.length - 2]? = z[z.length - 2]?) → Q2 (.exit 0, t2) g := by
      intro t2 e7 e8 hn
      have hT2 : T0 = (x, z) := by
        rw [← ht]
        obtain ⟨k, rfl⟩ : ∃ k, n = k + 1 := ⟨n - 1, by omega⟩
        simp only [trim]
        rw [if_neg hn]
      refine hQ2 _ _ (.inr ⟨by simp, rfl, rfl, ?_⟩)
      simp only [e7, e8]
      rw [hT2]
      exact ⟨ap, sq, z1', z9, rz⟩
    unfold L_precentorref9_Way_5
    have lx := ap.1.len
    have lz := sq.len
    by_cases h1 : 1 < x.length
    · have h1' : (1 : Int) < x.length := by omega
      by_cases h2 : 1 < z.length
      · have h2' : (1 : Int) < z.length := by omega
        obtain ⟨u, hu⟩ : ∃ u, x[x.length - 2]? = some u := ⟨_, List.getElem?_eq_getElem (by omega)⟩
        obtain ⟨w, hw⟩ : ∃ w, z[z.length - 2]? = some w := ⟨_, List.getElem?_eq_getElem (by omega)⟩
        obtain ⟨b1, p1, B1, q1, q2, q3⟩ := ap.1.atI hu
        obtain ⟨b2, p2, B2, k1, k2, k3⟩ := sq.atI hw
        have w1 : IntKind.i64.wrap ((x.length : Int) - 2) = ((x.length - 2 : Nat) : Int) := by rw [wrap_id (by omega) (by omega)]; omega
        have w2 : IntKind.i64.wrap ((z.length : Int) - 2) = ((z.length - 2 : Nat) : Int) := by rw [wrap_id (by omega) (by omega)]; omega
        have w3 : IntKind.i64.wrap ((x.length : Int) - 1) = ((x.length - 1 : Nat) : Int) := by rw [wrap_id (by omega) (by omega)]; omega
        have w4 : IntKind.i64.wrap ((z.length : Int) - 1) = ((z.length - 1 : Nat) : Int) := by rw [wrap_id (by omega) (by omega)]; omega
        by_cases heq : u = w
        · obtain ⟨c, len, cap, rfl, e1, e2⟩ := fx h1
          obtain ⟨c', len', cap', rfl, e1', e2'⟩ := fz h2
          have cf := cut_form (c := c) (len := len) (cap := cap) (hi := x.length - 1) (by omega) e2
          have cf' := cut_form (c := c') (len := len') (cap := cap') (hi := z.length - 1) (by omega) e2'
          obtain ⟨v1, m1, m2, _⟩ := ap.1.takeR (n := 1) rfl (hi := x.length - 1) (by omega)
          obtain ⟨v2, m1', m2', _⟩ := sq.takeR (n := 1) rfl (hi := z.length - 1) (by omega)
          have j := cf.symm.trans m1
          cases j
          have j := cf'.symm.trans m1'
          cases j
          rw [← List.dropLast_eq_take] at m2 m2'
          simp [t7, t8, lx, lz, h1', h2', w1, w2, q1, q2, q3, k1, k2, k3, heq, J_precentorref9_Way_6, w3, w4, cf, cf']
          have rm : Rm h g 1 (.sl c 0 len cap 1 false) := by
            rcases ap.2 with r | ⟨_, _, _, r, _, r2, _⟩
            · exact Rm.of r
            · exact r2
          refine Tells.ok (hQ2 _ _ (.inl ⟨rfl, n - 1, by omega, x.dropLast, z.dropLast, _, _, rfl, by simp, by simp, by simp; omega, by omega, by simp; omega, by simp; omega, by simp; omega, ?_, ⟨m2, .inr ⟨c, x.length - 1, cap, rfl, by omega, rm.cut (by omega), rx c (by simp [AVal.blks])⟩⟩, fun _ => ⟨c, x.length - 1, cap, rfl, by simp, by omega⟩, fun b hb => rx b (by simpa [AVal.blks] using hb), m2', fun _ => ⟨c', z.length - 1, cap', rfl, by simp, by omega⟩, fun b hb => rz b (by simpa [AVal.blks] using hb)⟩))
          obtain ⟨k, rfl⟩ : ∃ k, n = k + 1 := ⟨n - 1, by omega⟩
          rw [← ht]
          conv => rhs; unfold trim
          rw [if_pos ⟨h1, h2, by rw [hu, hw, heq]⟩]
          rfl
        · simp [t7, t8, lx, lz, h1', h2', w1, w2, q1, q2, q3, k1, k2, k3, beq_eq_false_iff_ne.2 heq]
          exact Tells.ok (stop _ (by simp [t7]) (by simp [t8]) (fun hh => heq (by have := hh.2.2; rw [hu, hw] at this; simpa using this)))
      · have h2' : ¬ (1 : Int) < z.length := by omega
        simp [t7, t8, lx, lz, h1', h2']
        exact Tells.ok (stop _ (by simp [t7]) (by simp [t8]) (fun hh => h2 hh.2.1))
    · have h1' : ¬ (1 : Int) < x.length := by omega
      simp [t7, t8, lx, lz, h1']
      exact Tells.ok (stop _ (by simp [t7]) (by simp [t8]) (fun hh => h1 hh.1))
  · have form : ∀ {h0 hh : Heap} {v : AVal} {xs : List Int}, Sl intR hh v xs → (1 < xs.length → ∃ c len cap, v = .sl c 0 len cap 1 false) → 1 < xs.length → ∃ c len cap, v = .sl c 0 len cap 1 false ∧ xs.length = len ∧ len ≤ cap := by
      intro h0 hh v xs o f hl
      obtain ⟨c, len, cap, rfl⟩ := f hl
      have e1 := o.len
      have e2 : lenL (.sl c 0 len cap 1 false) = some (I len) := rfl
      rw [e2] at e1
      simp at e1
      obtain ⟨css, s, _⟩ := o
      rcases s with ⟨q, _⟩ | ⟨b2, off2, cap2, sz2, ex2, B2, q, o2, o3, _⟩
      · cases q
      · cases q
        exact ⟨c, _, cap, rfl, by omega, o3⟩
    exact ⟨xs, zs, va, vb, rfl, by simp, by simp, by omega, Nat.le_refl _, la.1, lb.1, by omega, hT, apa, form (h0 := h) ga2.1 fa, fun b hb => by have := (wa b hb).2.2; have := root_le h2 b; omega, gb.1, form (h0 := h) gb.1 fb, fun b hb => (wb b hb).1⟩
  · rintro ⟨ex, t⟩ g ⟨rfl, rfl, ap, sq, l1, l9, rz⟩
    simp only at ap sq rz
    generalize hp : t 7 = p at ap
    generalize hq : t 8 = q at sq rz
    have w0 : IntKind.i64.wrap ((T0.2.length : Int) - 2) = (T0.2.length : Int) - 2 := wrap_id (by omega) (by omega)
    simp [J_precentorref9_Way_0, hq, sq.len, w0]
    refine Tells.bind (Tells.loop (fun n t g' => ∃ p : AVal, t 7 = p ∧ t 8 = q ∧ t 9 = I ((n : Int) - 1) ∧ n ≤ T0.2.length - 1 ∧ Ap h g' h1.next p (T0.1 ++ (T0.2.dropLast.drop n).reverse) ∧ Sl intR g' q T0.2 ∧ (∀ b, b ∈ q.blks → h1.next ≤ g'.root b) ∧ Ext [] h g')
      (Q := fun r g' => r.1 = .exit 2 ∧ Sl intR g' (r.2 7) (pathF ys a b) ∧ Ext [] h g') ?_ (T0.2.length - 1) _ _ ?_) ?_
    · rintro n t g' ⟨p, t7, t8, t9, nl, ap, sq, rz, x⟩
      refine Tells.prot fun Q2 hQ2 => ?_
      unfold L_precentorref9_Way_2
      by_cases hn : 0 < n
      · have hn' : (0 : Int) ≤ (n : Int) - 1 := by omega
        obtain ⟨y, hy⟩ : ∃ y, T0.2[n - 1]? = some y := ⟨_, List.getElem?_eq_getElem (by omega)⟩
        obtain ⟨b1, p1, B1, q1, q2, q3⟩ := sq.atI hy
        have e1 : ((n - 1 : Nat) : Int) = (n : Int) - 1 := by omega
        rw [e1] at q1
        have w1 : IntKind.i64.wrap ((n : Int) - 1 - 1) = (n : Int) - 1 - 1 := wrap_id (by omega) (by omega)
        have hT1 : T0.1.length ≤ 9 := by have := trim_len1 9 xs zs; rw [hT] at this; omega
        have hdl : (T0.2.dropLast.drop n).length ≤ 9 := by simp; omega
        have hd : T0.2.dropLast.drop (n - 1) = y :: T0.2.dropLast.drop n := by
          have hlt : n - 1 < T0.2.dropLast.length := by simp; omega
          rw [List.drop_eq_getElem_cons hlt, show n - 1 + 1 = n by omega]
          congr 1
          rw [List.getElem_dropLast]
          exact (List.getElem?_eq_some_iff.1 hy).2
        simp [t9, show (1 : Int) ≤ n by omega, J_precentorref9_Way_3, t7, t8, q1, q2, q3]
        refine apOne ap (by rw [List.length_append, List.length_reverse]; omega) x.next fun s3 g3 a3 y3 f3 => ?_
        obtain ⟨sq3, rz3⟩ := f3 q T0.2 sq rz
        simp [J_precentorref9_Way_4, t9, w1]
        refine Tells.ok (hQ2 _ _ (.inl ⟨rfl, n - 1, by omega, s3, by simp, by simp [t8], by simp; omega, by omega, ?_, sq3, rz3, y3 [] x⟩))
        rw [hd]
        simpa [List.append_assoc] using a3
      · have hn' : ¬ (0 : Int) ≤ (n : Int) - 1 := by omega
        have : n = 0 := by omega
        subst this
        simp [t9]
        refine Tells.ok (hQ2 _ _ (.inr ⟨by simp, rfl, ?_, x⟩))
        rw [hpath]
        simpa [t7] using ap.1
    · refine ⟨p, by simp [hp], by simp [hq], ?_, Nat.le_refl _, ?_, sq, rz, x12⟩
      · simp; omega
      · rw [List.drop_eq_nil_of_le (by simp)]
        simpa using ap
    · rintro ⟨ex, t⟩ g' ⟨rfl, sl, x⟩
      simp only at sl
      simp [J_precentorref9_Way_1]
      exact Tells.ok (hQ _ _ ⟨sl, x⟩)
theorem ref_has (hX : OnlyKnown X) {h : Heap} {v : AVal} {ys : List Int} (o : Sl intR h v ys) (hl : ys.length < 2 ^ 62) (b : Int) :
    Tells (fun q => acallX Try.prog X q F_precentorref9_has [v, I b] h) fun r h' => r = .bool (isT ys b) ∧ h' = h := by
  refine R_precentorref9_has _ _ (hX _ _ rfl) ?_
  refine Tells.prot fun Q' hQ => ?_
  unfold S_precentorref9_has
  simp
  refine Tells.bind (RightTree hX o hl) ?_
  rintro _ h ⟨rfl, rfl⟩
  cases hr : rightT ys with
  | false =>
    simp
    exact Tells.ok (hQ _ _ ⟨by simp [isT, hr], rfl⟩)
  | true =>
    by_cases h1 : 0 ≤ b
    · simp [h1, o.len]
      exact Tells.ok (hQ _ _ ⟨by simp [isT, hr, h1], rfl⟩)
    · simp [h1]
      exact Tells.ok (hQ _ _ ⟨by simp [isT, hr, h1], rfl⟩)
theorem ref_Dist (hX : OnlyKnown X) {h : Heap} {v : AVal} {ys : List Int} (o : Sl intR h v ys) (hl : ys.length < 2 ^ 62) (a b : Int) :
    Tells (fun q => acallX Try.prog X q F_precentorref9_Dist [v, I a, I b] h) fun r h' => r = I (distF ys a b) ∧ Ext [] h h' := by
  refine R_precentorref9_Dist _ _ _ (hX _ _ rfl) ?_
  refine Tells.prot fun Q' hQ => ?_
  unfold S_precentorref9_Dist
  simp
  refine Tells.bind (ref_has hX o hl a) ?_
  rintro _ h ⟨rfl, rfl⟩
  cases ha : isT ys a with
  | false =>
    simp
    exact Tells.ok (hQ _ _ ⟨by simp [distF, ha], .refl⟩)
  | true =>
    simp
    refine Tells.bind (ref_has hX o hl b) ?_
    rintro _ h ⟨rfl, rfl⟩
    cases hb : isT ys b with
    | false =>
      simp
      exact Tells.ok (hQ _ _ ⟨by simp [distF, hb], .refl⟩)
    | true =>
      obtain ⟨k1, k2, k3, k4⟩ := isT_ok ha
      obtain ⟨_, _, k5, k6⟩ := isT_ok hb
      simp [J_precentorref9_Dist_0]
      refine Tells.bind (ref_Way hX o k1 k2 k3 k4 k5 k6) ?_
      rintro p h1 ⟨sp, x1⟩
      have pl := pathF_len ys a b
      have w : IntKind.i64.wrap (((pathF ys a b).length : Int) - 1) = ((pathF ys a b).length : Int) - 1 := wrap_id (by omega) (by omega)
      simp [sp.len, w]
      exact Tells.ok (hQ _ _ ⟨by simp [distF, ha, hb], x1⟩)
theorem refSum (hX : OnlyKnown X) {h : Heap} {t : T} {v w t5 t6 : AVal} {ys l : List Int} {x : Int} (o : Sl intR h v ys) (hl : ys.length < 2 ^ 62) (ol : Sl intR h w l) (hll : l.length ≤ 1000) (hx : isT ys x = true) (hv : ∀ y, y ∈ l → isT ys y = true)
    (e0 : t 0 = v) (e1 : t 1 = w) (e5 : t 5 = t5) (e6 : t 6 = t6) (e8 : t 8 = I x) (e9 : t 9 = I 0) (e10 : t 10 = I 0) :
    Tells (fun m => loopN (L_precentorref9_Place_6 Try.prog (acallX Try.prog X m) m) m t h) fun p g => Ext [] h g ∧ p.1 = .exit 4 ∧ p.2 0 = v ∧ p.2 1 = w ∧ p.2 5 = t5 ∧ p.2 6 = t6 ∧ p.2 8 = I x ∧ p.2 9 = I (sumA ys x l) := by
  refine Tells.loop (fun n t g => ∃ (i : Nat) (s : Int), t 0 = v ∧ t 1 = w ∧ t 5 = t5 ∧ t 6 = t6 ∧ t 8 = I x ∧ t 9 = I s ∧ t 10 = I i ∧ i + n = l.length ∧ 0 ≤ s ∧ s ≤ 16 * i ∧ sumA ys x l = s + sumA ys x (l.drop i) ∧ Ext [] h g) ?_ l.length _ _ ?_
  · rintro n t g ⟨i, s, e0, e1, e5, e6, e8, e9, e10, hi, s0, s1, hs, xx⟩
    refine Tells.prot fun Q2 hQ2 => ?_
    have olg := ol.ext xx
    unfold L_precentorref9_Place_6
    simp [e10, e1, olg.len]
    refine Tells.cb (fun hc => ?_) (fun hc => ?_)
    · simp at hc
      obtain ⟨y, hy⟩ : ∃ y, l[i]? = some y := ⟨_, List.getElem?_eq_getElem hc⟩
      obtain ⟨b, p, B, q1, q2, q3⟩ := olg.atI hy
      have hym := hv y (List.mem_of_getElem? hy)
      have wi : IntKind.i64.wrap ((i : Int) + 1) = i + 1 := wrap_id (by omega) (by omega)
      have dl := distF_le ys x y
      have dg := distF_ge hx hym
      have hd : l.drop i = y :: l.drop (i + 1) := by rw [List.drop_eq_getElem_cons hc, (List.getElem?_eq_some_iff.1 hy).2]
      rw [hd] at hs
      have e : sumA ys x (y :: l.drop (i + 1)) = distF ys x y + sumA ys x (l.drop (i + 1)) := rfl
      rw [e] at hs
      have w9 : IntKind.i64.wrap (s + distF ys x y) = s + distF ys x y := wrap_id (by omega) (by omega)
      simp [J_precentorref9_Place_7, e9, e0, e8, e1, e10, q1, q2, q3]
      refine Tells.bind (ref_Dist hX (o.ext xx) hl x y) ?_
      rintro _ h2 ⟨rfl, x2⟩
      simp [w9, J_precentorref9_Place_8, e10, wi]
      exact Tells.ok (hQ2 _ _ (.inl ⟨rfl, n - 1, by omega, i + 1, s + distF ys x y, by simp [e0], by simp [e1], by simp [e5], by simp [e6], by simp [e8], by simp, by simp, by omega, by omega, by omega, by omega, xx.trans x2⟩))
    · simp at hc
      rw [List.drop_eq_nil_of_le (by omega)] at hs
      have : sumA ys x [] = 0 := rfl
      exact Tells.ok (hQ2 _ _ (.inr ⟨by simp, xx, rfl, by simp [e0], by simp [e1], by simp [e5], by simp [e6], by simp [e8], by simp [e9]; omega⟩))
  · exact ⟨0, 0, e0, e1, e5, e6, e8, e9, by simpa using e10, by omega, by omega, by omega, by simp, .refl⟩
theorem ref_Place (hX : OnlyKnown X) {h : Heap} {v w : AVal} {ys l : List Int} (o : Sl intR h v ys) (hl : ys.length ≤ 1000) (ol : Sl intR h w l) (hll : l.length ≤ 1000) :
    Tells (fun q => acallX Try.prog X q F_precentorref9_Place [v, w] h) fun r h' => r = I (placeF ys l) ∧ Ext [] h h' := by
  refine R_precentorref9_Place _ _ (hX _ _ rfl) ?_
  refine Tells.prot fun Q' hQ => ?_
  unfold S_precentorref9_Place
  simp
  refine Tells.bind (Tells.loop (fun n t g => ∃ (i : Nat), t 0 = v ∧ t 1 = w ∧ t 5 = I (-1) ∧ t 6 = I 0 ∧ t 7 = I i ∧ i + n = l.length ∧ (∀ (j : Nat) y, j < i → l[j]? = some y → isT ys y = true) ∧ g = h)
    (Q := fun p g => g = h ∧ ((p.1 = .exit 0 ∧ p.2 0 = v ∧ p.2 1 = w ∧ p.2 5 = I (-1) ∧ p.2 6 = I 0 ∧ ∀ y, y ∈ l → isT ys y = true) ∨ (p.1 = .ret ∧ p.2 4 = I (placeF ys l)))) ?_ l.length _ _ ?_) ?_
  · rintro n t g ⟨i, e0, e1, e5, e6, e7, hi, hv, rfl⟩
    refine Tells.prot fun Q2 hQ2 => ?_
    unfold L_precentorref9_Place_9
    simp [e7, e1, ol.len]
    refine Tells.cb (fun hc => ?_) (fun hc => ?_)
    · simp at hc
      obtain ⟨y, hy⟩ : ∃ y, l[i]? = some y := ⟨_, List.getElem?_eq_getElem hc⟩
      obtain ⟨b, p, B, q1, q2, q3⟩ := ol.atI hy
      have wi : IntKind.i64.wrap ((i : Int) + 1) = i + 1 := wrap_id (by omega) (by omega)
      simp [J_precentorref9_Place_10, e0, e1, e7, q1, q2, q3]
      refine Tells.bind (ref_has hX o (by omega) y) ?_
      rintro _ g ⟨rfl, rfl⟩
      cases hb : isT ys y with
      | false =>
        simp
        exact Tells.ok (hQ2 _ _ (.inr ⟨by simp, rfl, .inr ⟨rfl, by simp [place_bad (List.mem_of_getElem? hy) hb]⟩⟩))
      | true =>
        simp [J_precentorref9_Place_11, e7, wi]
        refine Tells.ok (hQ2 _ _ (.inl ⟨rfl, n - 1, by omega, i + 1, by simp [e0], by simp [e1], by simp [e5], by simp [e6], by simp, by omega, fun j z hj hz => ?_, rfl⟩))
        by_cases q : j = i
        · subst q; rw [hy] at hz; cases hz; exact hb
        · exact hv j z (by omega) hz
    · simp at hc
      refine Tells.ok (hQ2 _ _ (.inr ⟨by simp, rfl, .inl ⟨rfl, by simp [e0], by simp [e1], by simp [e5], by simp [e6], fun y hy => ?_⟩⟩))
      obtain ⟨j, hj, rfl⟩ := List.mem_iff_getElem.1 hy
      exact hv j _ (by omega) (List.getElem?_eq_getElem hj)
  · exact ⟨0, by simp, by simp, by simp, by simp, by simp, by omega, by simp, rfl⟩
  · rintro ⟨ex, t⟩ g ⟨rfl, ⟨rfl, k0, k1, k5, k6, hv⟩ | ⟨rfl, k4⟩⟩
    · simp only at k0 k1 k5 k6
      simp [J_precentorref9_Place_0]
      refine Tells.bind (Tells.loop (fun n t g' => ∃ (x : Nat) (best least : Int), t 0 = v ∧ t 1 = w ∧ t 5 = I best ∧ t 6 = I least ∧ t 8 = I x ∧ x + n = ys.length + 1 ∧ (l.length = 0 → best = -1) ∧ (l.length ≠ 0 → placeF ys l = placeN ys l n x best least) ∧ Ext [] g g')
        (Q := fun p g' => Ext [] g g' ∧ p.1 = .exit 2 ∧ p.2 5 = I (placeF ys l)) ?_ (ys.length + 1) _ _ ?_) ?_
      · rintro n t g' ⟨x, best, least, e0, e1, e5, e6, e8, hn, hz, hp, xx⟩
        refine Tells.prot fun Q2 hQ2 => ?_
        have og := o.ext xx
        have olg := ol.ext xx
        unfold L_precentorref9_Place_2
        simp [e0]
        refine Tells.bind (RightTree hX og (by omega)) ?_
        rintro _ g' ⟨rfl, rfl⟩
        by_cases hl0 : l.length = 0
        · have := hz hl0
          subst this
          have fin : placeF ys l = -1 := by simp [placeF, hl0]
          cases hr : rightT ys with
          | false =>
            simp
            exact Tells.ok (hQ2 _ _ (.inr ⟨by simp, xx, rfl, by simp [e5, fin]⟩))
          | true =>
            simp [e1, olg.len, hl0]
            exact Tells.ok (hQ2 _ _ (.inr ⟨by simp, xx, rfl, by simp [e5, fin]⟩))
        · obtain ⟨y0, hy0⟩ : ∃ y, y ∈ l := by
            cases l with
            | nil => simp at hl0
            | cons y r => exact ⟨y, by simp⟩
          have hT := hv y0 hy0
          have hr : rightT ys = true := by unfold isT at hT; simp at hT; exact hT.1.1
          have hl1 : (0 : Int) < l.length := by omega
          have hl2 : 0 < l.length := by omega
          have hp := hp hl0
          by_cases h1 : x ≤ ys.length
          · have h1' : (x : Int) ≤ ys.length := by omega
            have hx := isT_of hT (show (0 : Int) ≤ x by omega) h1'
            obtain ⟨k, rfl⟩ : ∃ k, n = k + 1 := ⟨n - 1, by omega⟩
            have wx : IntKind.i64.wrap ((x : Int) + 1) = x + 1 := wrap_id (by omega) (by omega)
            have hs : sumG ys x 0 l = some (sumA ys x l) := by rw [sumG_all hx l 0 hv, Int.zero_add]
            have hp2 : placeF ys l = if best < 0 ∨ sumA ys x l < least then placeN ys l k (x + 1) x (sumA ys x l) else placeN ys l k (x + 1) best least := by
              rw [hp]; simp only [placeN, hs]
            simp [hr, e1, olg.len, hl2, e8, e0, og.len, h1, J_precentorref9_Place_3]
            refine Tells.bind (refSum hX (t5 := I best) (t6 := I least) (x := (x : Int)) og (by omega) olg hll hx hv (by simp [e0]) (by simp [e1]) (by simp [e5]) (by simp [e6]) (by simp [e8]) (by simp) (by simp)) ?_
            rintro ⟨ex, t'⟩ g2 ⟨x2, rfl, k0, k1, k5, k6, k8, k9⟩
            simp only at k0 k1 k5 k6 k8 k9
            by_cases hb : best < 0
            · rw [if_pos (.inl hb)] at hp2
              simp [J_precentorref9_Place_5, k5, hb, k8, k9, J_precentorref9_Place_4, wx]
              exact Tells.ok (hQ2 _ _ (.inl ⟨rfl, k, by omega, x + 1, x, sumA ys x l, by simp [k0], by simp [k1], by simp, by simp, by simp, by omega, fun q => by omega, fun _ => by simpa using hp2, xx.trans x2⟩))
            · by_cases hs2 : sumA ys x l < least
              · rw [if_pos (.inr hs2)] at hp2
                simp [J_precentorref9_Place_5, k5, hb, k6, hs2, k8, k9, J_precentorref9_Place_4, wx]
                exact Tells.ok (hQ2 _ _ (.inl ⟨rfl, k, by omega, x + 1, x, sumA ys x l, by simp [k0], by simp [k1], by simp, by simp, by simp, by omega, fun q => by omega, fun _ => by simpa using hp2, xx.trans x2⟩))
              · rw [if_neg (by omega)] at hp2
                simp [J_precentorref9_Place_5, k5, hb, k6, hs2, k8, k9, J_precentorref9_Place_4, wx]
                exact Tells.ok (hQ2 _ _ (.inl ⟨rfl, k, by omega, x + 1, best, least, by simp [k0], by simp [k1], by simp [k5], by simp [k6], by simp, by omega, fun q => by omega, fun _ => by simpa using hp2, xx.trans x2⟩))
          · have h1' : ¬ (x : Int) ≤ ys.length := by omega
            have : n = 0 := by omega
            subst this
            simp [hr, e1, olg.len, hl2, e8, e0, og.len, h1]
            exact Tells.ok (hQ2 _ _ (.inr ⟨by simp, xx, rfl, by rw [hp]; simp [e5, placeN]⟩))
      · refine ⟨0, -1, 0, by simp [k0], by simp [k1], by simp [k5], by simp [k6], by simp, by omega, fun _ => rfl, fun q => ?_, .refl⟩
        unfold placeF
        rw [if_neg q]
        rfl
      · rintro ⟨ex, t⟩ g' ⟨xx, rfl, k⟩
        simp only at k
        simp [J_precentorref9_Place_1, k]
        exact Tells.ok (hQ _ _ ⟨rfl, xx⟩)
    · simp only at k4
      simp [k4]
      exact Tells.ok (hQ _ _ ⟨rfl, .refl⟩)
end
end Go.Proofs.Ytbkfamdkdjajjaa

/-! precentorref9.Chain. -/
namespace Go.Proofs.Ytbkfamdkdjajjaa
open Go.Ab

/-- What Chain tells: atoms of brokers that are, in the brokers' order. -/
structure ChO (m : Nat) (l : List (Int × Int × Int)) : Prop where
  n : l.length ≤ 4000
  b : ∀ a, a ∈ l → 0 ≤ a.2.2 ∧ a.2.2 ≤ m
  s : l.Pairwise fun a b => a.2.2 ≤ b.2.2
theorem ChO.nil (m : Nat) : ChO m [] := ⟨by simp, by simp, by simp⟩

/-- Of the first brokers' atoms. -/
structure ChP (b : Nat) (l : List (Int × Int × Int)) : Prop where
  b : ∀ a, a ∈ l → 0 ≤ a.2.2 ∧ a.2.2 ≤ b
  s : l.Pairwise fun a b => a.2.2 ≤ b.2.2
theorem ChP.add {b : Nat} {l : List (Int × Int × Int)} (c : ChP b l) (x y : Int) : ChP b (l ++ [(x, y, (b : Int))]) := by
  refine ⟨fun a ha => ?_, ?_⟩
  · rcases List.mem_append.1 ha with q | q
    · exact c.b a q
    · simp at q; subst q; simp
  · refine List.pairwise_append.2 ⟨c.s, by simp, fun a ha d hd => ?_⟩
    simp at hd; subst hd
    exact (c.b a ha).2
theorem ChP.up {b : Nat} {l : List (Int × Int × Int)} (c : ChP b l) : ChP (b + 1) l := ⟨fun a ha => by have := c.b a ha; omega, c.s⟩

section
variable {X : XTab}

/-- The inmost: is there an atom of groups i and k at broker b? -/
theorem chain_one (hX : OnlyKnown X) {h g : Heap} {t : T} {pv v gv : AVal} {ys : List Int} {l : List Sx} {gs : List Gp} {ats : List (Int × Int × Int)} {b i k : Nat} {Q : Ex × T → Heap → Prop}
    (op : Sl intR h pv ys) (hy : ys.length ≤ 7) (os : Sl sxR h v l) (hl : l.length ≤ 20) (og : Sl gpR h gv gs) (hg : GrO l gs)
    (t0 : t 0 = pv) (t1 : t 1 = v) (t6 : t 6 = gv) (t8 : t 8 = I b) (t9 : t 9 = I i) (t10 : t 10 = I k) (hi : i < gs.length) (hk : k < gs.length)
    (ga : Gl atR h g (t 7) ats) (ca : ChP b ats) (la : ats.length ≤ 4000) (xg : Ext [] h g)
    (hQ : ∀ (t' : T) g' ats', t' 0 = pv → t' 1 = v → t' 6 = gv → t' 8 = I b → t' 9 = I i → t' 10 = I (k + 1) → Gl atR h g' (t' 7) ats' → ChP b ats' → ats'.length ≤ ats.length + 1 → Ext [] h g' → Q (.normal, t') g') :
    Tells (fun m => J_precentorref9_Chain_10 Try.prog (acallX Try.prog X m) m okK t g) Q := by
  have hgl := hg.n
  have wk : IntKind.i64.wrap ((k : Int) + 1) = k + 1 := wrap_id (by omega) (by omega)
  generalize hv7 : t 7 = v7 at ga
  simp [J_precentorref9_Chain_10, t6, t9, t10]
  refine Tells.bind (ref_Shared hX (og.ext xg) (by omega) (fun x hx => by have := (hg.f x hx).2.1; omega) hi hk) ?_
  rintro bv g1 ⟨cs, sb, lb, hcs, x1⟩
  have X1 := xg.trans x1
  try simp
  refine Tells.bind (Tells.loop (fun n t g' => ∃ (j : Nat) (hs : List Int), t 0 = pv ∧ t 1 = v ∧ t 6 = gv ∧ t 7 = v7 ∧ t 8 = I b ∧ t 9 = I i ∧ t 10 = I k ∧ t 11 = bv ∧ t 13 = I j ∧ j + n = cs.length ∧ hs.length ≤ j ∧ Gl intR g1 g' (t 12) hs ∧ Ext [] g1 g')
    (Q := fun p g' => p.1 = .exit 8 ∧ p.2 0 = pv ∧ p.2 1 = v ∧ p.2 6 = gv ∧ p.2 7 = v7 ∧ p.2 8 = I b ∧ p.2 9 = I i ∧ p.2 10 = I k ∧ ∃ hs, hs.length ≤ 1000 ∧ Sl intR g' (p.2 12) hs ∧ Ext [] g1 g') ?_ cs.length _ _ ⟨0, [], by simp [t0], by simp [t1], by simp [t6], by simp [hv7], by simp [t8], by simp [t9], by simp [t10], by simp, by simp, by omega, by simp, by simpa using Gl.nil, .refl⟩) ?_
  · rintro n t g' ⟨j, hs, t0, t1, t6, t7, t8, t9, t10, t11, t13, hj, hlen, gh, x'⟩
    refine Tells.prot fun Q2 hQ2 => ?_
    unfold L_precentorref9_Chain_13
    have sb' := sb.ext x'
    simp [t13, t11, sb'.len]
    refine Tells.cb (fun hc => ?_) (fun hc => ?_)
    · simp at hc
      obtain ⟨c, hcj⟩ : ∃ c, cs[j]? = some c := ⟨_, List.getElem?_eq_getElem hc⟩
      obtain ⟨bb, p, B, q1, q2, q3⟩ := sb'.atI hcj
      have w : IntKind.i64.wrap ((j : Int) + 1) = j + 1 := wrap_id (by omega) (by omega)
      obtain ⟨x, hx1, hx2⟩ := hcs c (List.mem_of_getElem? hcj)
      obtain ⟨s, hs1, hs2⟩ := (hg.f x (List.mem_of_getElem? hx1)).2.2 c hx2
      simp [J_precentorref9_Chain_14, t1, t11, t13, q1, q2, q3]
      refine Tells.bind (ref_Of hX ((os.ext X1).ext x') (by omega) c) ?_
      rintro ov g2 ⟨oo, x2⟩
      have X2 := x'.trans x2
      obtain ⟨s0, h0⟩ : ∃ s0, (ofL l c)[0]? = some s0 := by
        have : s ∈ ofL l c := List.mem_filter.2 ⟨hs1, by simp [hs2]⟩
        cases e : ofL l c with
        | nil => rw [e] at this; simp at this
        | cons a r => exact ⟨a, rfl⟩
      obtain ⟨b2, p2, B2, c2, r1, r2, fw, rfl, ow, zw⟩ := oo.at (n := 4) rfl (i := ((0 : Nat) : Int)) (by omega) (by simpa using h0)
      have r41 := r2.cell (k := 1) (by simp [sxC])
      simp [sxC] at r41
      have r1 : ixsR 4 ov (I 0) = some (.ptr b2 p2) := by simpa using r1
      simp [r1, r2.get, r41]
      refine Tells.app1 (gh.e x2) (by rfl) (by rfl) (show intR.rep g2 [I s0.b] s0.b from rfl) (by rfl) (by rfl) (by omega) (by decide) X2.next fun s3 g3 gh3 x3 y3 _ => ?_
      simp [J_precentorref9_Chain_15, t13, w]
      exact Tells.ok (hQ2 _ _ (.inl ⟨rfl, n - 1, by omega, j + 1, hs ++ [s0.b], by simp [t0], by simp [t1], by simp [t6], by simp [t7], by simp [t8], by simp [t9], by simp [t10], by simp [t11], by simp, by omega, by simp; omega, by simpa using gh3, y3 [] X2⟩))
    · exact Tells.ok (hQ2 _ _ (.inr ⟨by simp, rfl, by simp [t0], by simp [t1], by simp [t6], by simp [t7], by simp [t8], by simp [t9], by simp [t10], hs, by omega, by simpa using gh.1, x'⟩))
  · rintro ⟨ex, t⟩ g' ⟨rfl, t0, t1, t6, t7, t8, t9, t10, hs, hlen, sh, x'⟩
    simp only at t0 t1 t6 t7 t8 t9 t10 sh
    generalize hv12 : t 12 = v12 at sh
    have X' := X1.trans x'
    have ga' := ga.e (x1.trans x')
    have no : ∀ (t2 : T) (g2 : Heap), t2 0 = pv → t2 1 = v → t2 6 = gv → t2 7 = v7 → t2 8 = I b → t2 9 = I i → t2 10 = I k → Ext [] g' g2 → Tells (fun m => J_precentorref9_Chain_11 Try.prog (acallX Try.prog X m) m okK t2 g2) Q := by
      intro t2 g2 a0 a1 a6 a7 a8 a9 a10 x2
      simp [J_precentorref9_Chain_11, a10, wk]
      exact Tells.ok (hQ _ _ ats (by simp [a0]) (by simp [a1]) (by simp [a6]) (by simp [a8]) (by simp [a9]) (by simp) (by simpa [a7] using ga'.e x2) ca (by omega) (X'.trans x2))
    simp [J_precentorref9_Chain_12, hv12, sh.len, t0, t8]
    by_cases h0 : 0 < hs.length
    · have h0' : (0 : Int) < hs.length := by omega
      simp [h0, h0']
      refine Tells.bind (ref_Place hX ((op.ext X1).ext x') (by omega) sh hlen) ?_
      rintro _ g2 ⟨rfl, x2⟩
      by_cases hp : placeF ys hs = b
      · simp [hp, t9, t10, bldR, fillR, splice, t7, t8]
        refine Tells.app1 (ga'.e x2) (by rfl) (by rfl) (show atR.rep g2 [I i, I k, I b] ((i : Int), (k : Int), (b : Int)) from rfl) (by rfl) (by rfl) (by omega) (by decide) (X'.trans x2).next fun s3 g3 ga3 x3 y3 _ => ?_
        simp [J_precentorref9_Chain_11, t10, wk]
        exact Tells.ok (hQ _ _ (ats ++ [((i : Int), (k : Int), (b : Int))]) (by simp [t0]) (by simp [t1]) (by simp [t6]) (by simp [t8]) (by simp [t9]) (by simp) (by simpa using ga3) (ca.add _ _) (by simp) (y3 [] (X'.trans x2)))
      · simp [beq_eq_false_iff_ne.2 hp]
        exact no _ g2 (by simp [t0]) (by simp [t1]) (by simp [t6]) (by simp [t7]) (by simp [t8]) (by simp [t9]) (by simp [t10]) x2
    · have h0' : ¬ (0 : Int) < hs.length := by omega
      simp [h0, h0']
      exact no _ g' (by simp [t0]) (by simp [t1]) (by simp [t6]) (by simp [t7]) (by simp [t8]) (by simp [t9]) (by simp [t10]) .refl

end
end Go.Proofs.Ytbkfamdkdjajjaa

/-! precentorref9.Chain, whole. -/
namespace Go.Proofs.Ytbkfamdkdjajjaa
open Go.Ab

section
variable {X : XTab}

/-- All atoms of a broker. -/
theorem chain_broker (hX : OnlyKnown X) {h g : Heap} {t : T} {pv v gv : AVal} {ys : List Int} {l : List Sx} {gs : List Gp} {ats : List (Int × Int × Int)} {b : Nat} {Q : Ex × T → Heap → Prop}
    (op : Sl intR h pv ys) (hy : ys.length ≤ 7) (os : Sl sxR h v l) (hl : l.length ≤ 20) (og : Sl gpR h gv gs) (hg : GrO l gs) (hb : b ≤ 7)
    (t0 : t 0 = pv) (t1 : t 1 = v) (t6 : t 6 = gv) (t8 : t 8 = I b)
    (ga : Gl atR h g (t 7) ats) (ca : ChP b ats) (la : ats.length ≤ 400 * b) (xg : Ext [] h g)
    (hQ : ∀ (t' : T) g' ats', t' 0 = pv → t' 1 = v → t' 6 = gv → t' 8 = I ((b : Int) + 1) → Gl atR h g' (t' 7) ats' → ChP b ats' → ats'.length ≤ 400 * (b + 1) → Ext [] h g' → Q (.normal, t') g') :
    Tells (fun m => J_precentorref9_Chain_4 Try.prog (acallX Try.prog X m) m okK t g) Q := by
  have hgl := hg.n
  have wb : IntKind.i64.wrap ((b : Int) + 1) = b + 1 := wrap_id (by omega) (by omega)
  simp [J_precentorref9_Chain_4]
  refine Tells.bind (Tells.loop (fun n t g => ∃ (i : Nat) (ats : List (Int × Int × Int)), t 0 = pv ∧ t 1 = v ∧ t 6 = gv ∧ t 8 = I b ∧ t 9 = I i ∧ i + n = gs.length ∧ Gl atR h g (t 7) ats ∧ ChP b ats ∧ ats.length ≤ 400 * b + 20 * i ∧ Ext [] h g)
    (Q := fun p g => p.1 = .exit 4 ∧ p.2 0 = pv ∧ p.2 1 = v ∧ p.2 6 = gv ∧ p.2 8 = I b ∧ ∃ ats, Gl atR h g (p.2 7) ats ∧ ChP b ats ∧ ats.length ≤ 400 * (b + 1) ∧ Ext [] h g) ?_ gs.length _ _ ⟨0, ats, by simp [t0], by simp [t1], by simp [t6], by simp [t8], by simp, by omega, by simpa using ga, ca, by omega, xg⟩) ?_
  · rintro n t g ⟨i, ats, t0, t1, t6, t8, t9, hi, ga, ca, la, xg⟩
    refine Tells.prot fun Q2 hQ2 => ?_
    unfold L_precentorref9_Chain_6
    have ogg := og.ext xg
    simp [t9, t6, ogg.len]
    refine Tells.cb (fun hc => ?_) (fun hc => ?_)
    · simp at hc
      have wi : IntKind.i64.wrap ((i : Int) + 1) = i + 1 := wrap_id (by omega) (by omega)
      simp [J_precentorref9_Chain_7, t9]
      refine Tells.bind (Tells.loop (fun n t g => ∃ (k : Nat) (ats : List (Int × Int × Int)), t 0 = pv ∧ t 1 = v ∧ t 6 = gv ∧ t 8 = I b ∧ t 9 = I i ∧ t 10 = I k ∧ k + n = gs.length ∧ Gl atR h g (t 7) ats ∧ ChP b ats ∧ ats.length ≤ 400 * b + 20 * i + k ∧ Ext [] h g)
        (Q := fun p g => p.1 = .exit 6 ∧ p.2 0 = pv ∧ p.2 1 = v ∧ p.2 6 = gv ∧ p.2 8 = I b ∧ p.2 9 = I i ∧ ∃ ats, Gl atR h g (p.2 7) ats ∧ ChP b ats ∧ ats.length ≤ 400 * b + 20 * (i + 1) ∧ Ext [] h g) ?_ (gs.length - i) _ _ ⟨i, ats, by simp [t0], by simp [t1], by simp [t6], by simp [t8], by simp [t9], by simp, by omega, by simpa using ga, ca, by omega, xg⟩) ?_
      · rintro n t g ⟨k, ats, t0, t1, t6, t8, t9, t10, hk, ga, ca, la, xg⟩
        refine Tells.prot fun Q3 hQ3 => ?_
        unfold L_precentorref9_Chain_9
        have ogg := og.ext xg
        simp [t10, t6, ogg.len]
        refine Tells.cb (fun hc2 => ?_) (fun hc2 => ?_)
        · simp at hc2
          refine chain_one hX op hy os hl og hg (b := b) (i := i) (k := k) (ats := ats) (by simp [t0]) (by simp [t1]) (by simp [t6]) (by simp [t8]) (by simp [t9]) (by simp [t10]) hc hc2 (by simpa using ga) ca (by omega) xg fun t' g' ats' a0 a1 a6 a8 a9 a10 ga' ca' la' x' => ?_
          exact hQ3 _ _ (.inl ⟨rfl, n - 1, by omega, k + 1, ats', a0, a1, a6, a8, a9, by simp [a10], by omega, ga', ca', by omega, x'⟩)
        · exact Tells.ok (hQ3 _ _ (.inr ⟨by simp, rfl, by simp [t0], by simp [t1], by simp [t6], by simp [t8], by simp [t9], ats, by simpa using ga, ca, by omega, xg⟩))
      · rintro ⟨ex, t⟩ g ⟨rfl, t0, t1, t6, t8, t9, ats, ga, ca, la, xg⟩
        simp only at t0 t1 t6 t8 t9 ga
        simp [J_precentorref9_Chain_8, t9, wi]
        exact Tells.ok (hQ2 _ _ (.inl ⟨rfl, n - 1, by omega, i + 1, ats, by simp [t0], by simp [t1], by simp [t6], by simp [t8], by simp, by omega, by simpa using ga, ca, by omega, xg⟩))
    · exact Tells.ok (hQ2 _ _ (.inr ⟨by simp, rfl, by simp [t0], by simp [t1], by simp [t6], by simp [t8], ats, by simpa using ga, ca, by omega, xg⟩))
  · rintro ⟨ex, t⟩ g ⟨rfl, t0, t1, t6, t8, ats, ga, ca, la, xg⟩
    simp only at t0 t1 t6 t8 ga
    simp [J_precentorref9_Chain_5, t8, wb]
    exact Tells.ok (hQ _ _ ats (by simp [t0]) (by simp [t1]) (by simp [t6]) (by simp) (by simpa using ga) ca la xg)

theorem ref_Chain (hX : OnlyKnown X) {h : Heap} {pv v : AVal} {ys : List Int} {l : List Sx} (op : Sl intR h pv ys) (hy : ys.length ≤ 7) (os : Sl sxR h v l) (hl : l.length ≤ 20) (fa : ∀ s, s ∈ l → FedF s.fl ∧ 1 ≤ s.c ∧ s.c ≤ 6) :
    Tells (fun q => acallX Try.prog X q F_precentorref9_Chain [pv, v] h) fun r h' => ∃ ats, Sl atR h' r ats ∧ ChO ys.length ats ∧ Ext [] h h' := by
  refine R_precentorref9_Chain _ _ (hX _ _ rfl) ?_
  refine Tells.prot fun Q' hQ => ?_
  unfold S_precentorref9_Chain
  have out : ∀ g : Heap, Ext [] h g → Q' .nils g := fun g x => hQ _ _ ⟨[], Sl.nil, ChO.nil _, x⟩
  try simp
  refine Tells.bind (RightTree hX op (by omega)) ?_
  rintro _ h ⟨rfl, rfl⟩
  cases rightT ys with
  | false =>
    simp
    exact Tells.ok (out _ .refl)
  | true =>
    simp
    refine Tells.bind (ref_RightSubs hX os (by omega) (fun s hs => (fa s hs).1.szn)) ?_
    rintro _ h1 ⟨rfl, x1⟩
    cases rightS l with
    | false =>
      simp
      exact Tells.ok (out _ x1)
    | true =>
      simp [J_precentorref9_Chain_0]
      refine Tells.bind (Tells.loop (fun n t g => ∃ (i : Nat), t 0 = pv ∧ t 1 = v ∧ t 5 = I i ∧ i + n = l.length ∧ Ext [] h g)
        (Q := fun p g => Ext [] h g ∧ ((p.1 = .exit 0 ∧ p.2 0 = pv ∧ p.2 1 = v) ∨ (p.1 = .ret ∧ p.2 4 = .nils))) ?_ l.length _ _ ⟨0, by simp, by simp, by simp, by omega, x1⟩) ?_
      · rintro n t g ⟨i, t0, t1, t5, hi, xg⟩
        refine Tells.prot fun Q2 hQ2 => ?_
        unfold L_precentorref9_Chain_16
        have osg := os.ext xg
        simp [t5, t1, osg.len]
        refine Tells.cb (fun hc => ?_) (fun hc => ?_)
        · simp at hc
          obtain ⟨s, hs⟩ : ∃ s, l[i]? = some s := ⟨_, List.getElem?_eq_getElem hc⟩
          obtain ⟨b2, p2, B2, c2, r1, r2, fw, rfl, ow, zw⟩ := osg.at (n := 4) rfl (i := (i : Int)) (by omega) (by simpa using hs)
          have r41 := r2.cell (k := 1) (by simp [sxC])
          simp [sxC] at r41
          have w : IntKind.i64.wrap ((i : Int) + 1) = i + 1 := wrap_id (by omega) (by omega)
          by_cases c1 : (ys.length : Int) < s.b
          · simp [J_precentorref9_Chain_17, t0, t1, t5, r1, r2.get, r41, (op.ext xg).len, c1]
            exact Tells.ok (hQ2 _ _ (.inr ⟨by simp, xg, .inr ⟨rfl, by simp⟩⟩))
          · simp [J_precentorref9_Chain_17, t0, t1, t5, r1, r2.get, r41, (op.ext xg).len, c1, J_precentorref9_Chain_18, w]
            exact Tells.ok (hQ2 _ _ (.inl ⟨rfl, n - 1, by omega, i + 1, by simp [t0], by simp [t1], by simp, by omega, xg⟩))
        · exact Tells.ok (hQ2 _ _ (.inr ⟨by simp, xg, .inl ⟨rfl, by simp [t0], by simp [t1]⟩⟩))
      · rintro ⟨ex, t⟩ g ⟨xg, ⟨rfl, t0, t1⟩ | ⟨rfl, t4⟩⟩
        · simp only at t0 t1
          simp [J_precentorref9_Chain_1, t1]
          refine Tells.bind (ref_Groups hX (os.ext xg) hl fa) ?_
          rintro gv g1 ⟨gs, og, hg, y1⟩
          have X1 := xg.trans y1
          try simp
          refine Tells.bind (Tells.loop (fun n t g => ∃ (b : Nat) (ats : List (Int × Int × Int)), t 0 = pv ∧ t 1 = v ∧ t 6 = gv ∧ t 8 = I b ∧ b + n = ys.length + 1 ∧ Gl atR g1 g (t 7) ats ∧ ChP b ats ∧ (∀ a, a ∈ ats → a.2.2 < b) ∧ ats.length ≤ 400 * b ∧ Ext [] g1 g)
            (Q := fun p g => p.1 = .exit 2 ∧ ∃ ats, Sl atR g (p.2 7) ats ∧ ChO ys.length ats ∧ Ext [] g1 g) ?_ (ys.length + 1) _ _ ⟨0, [], by simp [t0], by simp [t1], by simp, by simp, by omega, by simpa using Gl.nil, ⟨by simp, by simp⟩, by simp, by simp, .refl⟩) ?_
          · rintro n t g ⟨b, ats, t0, t1, t6, t8, hb, ga, ca, sa, la, xg⟩
            refine Tells.prot fun Q2 hQ2 => ?_
            unfold L_precentorref9_Chain_3
            have opg := (op.ext X1).ext xg
            by_cases hc : b ≤ ys.length
            · have hc' : (b : Int) ≤ ys.length := by omega
              simp [t8, t0, opg.len, hc, hc']
              refine chain_broker hX (op.ext X1) hy (os.ext X1) hl og hg (b := b) (ats := ats) (by omega) (by simp [t0]) (by simp [t1]) (by simp [t6]) (by simp [t8]) (by simpa using ga) ca la xg fun t' g' ats' a0 a1 a6 a8 ga' ca' la' x' => ?_
              exact hQ2 _ _ (.inl ⟨rfl, n - 1, by omega, b + 1, ats', a0, a1, a6, by simp [a8], by omega, ga', ca'.up, fun a ha => by have := ca'.b a ha; omega, la', x'⟩)
            · have hc' : ¬ (b : Int) ≤ ys.length := by omega
              have hb2 : b = ys.length + 1 := by omega
              simp [t8, t0, opg.len, hc, hc']
              refine Tells.ok (hQ2 _ _ (.inr ⟨by simp, rfl, ats, by simpa using ga.1, ⟨by omega, fun a ha => ?_, ca.s⟩, xg⟩))
              have := ca.b a ha
              have := sa a ha
              omega
          · rintro ⟨ex, t⟩ g ⟨rfl, ats, sa, ca, xg'⟩
            simp [J_precentorref9_Chain_2]
            exact Tells.ok (hQ _ _ ⟨ats, by simpa using sa, ca, X1.trans xg'⟩)
        · simp only at t4
          simp [t4]
          exact Tells.ok (out _ xg)
end
end Go.Proofs.Ytbkfamdkdjajjaa

/-! Law 14's made: a chain, and its ways of some events. -/
namespace Go.Proofs.Ytbkfamdkdjajjaa
open Go.Ab

/-- A row of whole numbers. -/
def wyR : Rp (List Int) := ⟨1, by decide, fun h cs x => ∃ v, cs = [v] ∧ Sl intR h v x, fun ⟨v, e, _⟩ => by rw [e]; rfl, fun ⟨v, e, o⟩ => by rw [e]; simp [o.one], fun ⟨v, e, o⟩ x => ⟨v, e, o.ext x⟩⟩
/-- A way along the chain. -/
def Way14 (ats : List (Int × Int × Int)) (w : List Int) : Prop := ∃ m, w = walkF m ats
theorem wy_at {h : Heap} {v : AVal} {ws : List (List Int)} (o : Sl wyR h v ws) {i : Nat} {w : List Int} (hw : ws[i]? = some w) :
    ∃ b p B wv, ixsR 1 v (.int .i64 (i : Int)) = some (.ptr b p) ∧ h.get b = some B ∧ B[p]? = some wv ∧ Sl intR h wv w := by
  obtain ⟨b1, p1, B1, c1, q1, q2, wv, rfl, ow⟩ := o.at (n := 1) rfl (i := (i : Int)) (by omega) (by simpa using hw)
  exact ⟨b1, p1, B1, wv, q1, q2.get, q2.cell0 (by simp), ow⟩
theorem at_at {h : Heap} {v : AVal} {l : List (Int × Int × Int)} (o : Sl atR h v l) {i : Nat} {a : Int × Int × Int} (ha : l[i]? = some a) :
    ∃ b p B, ixsR 3 v (.int .i64 (i : Int)) = some (.ptr b p) ∧ h.get b = some B ∧ B[p]? = some (I a.1) ∧ B[p + 1]? = some (I a.2.1) ∧ B[p + 2]? = some (I a.2.2) ∧ p + 3 ≤ B.length ∧ (B.drop p).take 3 = [I a.1, I a.2.1, I a.2.2] := by
  obtain ⟨b1, p1, B1, c1, q1, q2, q3⟩ := o.at (n := 3) rfl (i := (i : Int)) (by omega) (by simpa using ha)
  have q3 : c1 = [I a.1, I a.2.1, I a.2.2] := q3
  subst q3
  have l := q2.le
  exact ⟨b1, p1, B1, q1, q2.get, q2.cell0 (by simp), q2.cell (k := 1) (by simp), q2.cell (k := 2) (by simp), by simpa using l, by simpa using q2.eq⟩

section
variable {X : XTab}

theorem made14 (hX : OnlyKnown X) {h : Heap} {bf k : Nat} (f : Feed h bf k) (hk : k < 2 ^ 50) {n : Nat} (hn : n ≤ 8) :
    Tells (fun q => acallX Try.prog X q F_precentorlaw14_made [.ptr bf 0, I n] h) fun r h' => ∃ cv dv wv pv ys ats ws, r = .tup [cv, dv, wv, pv] ∧ ys.length ≤ 7 ∧ Sl intR h' pv ys ∧ Sl atR h' cv ats ∧ Sl atR h' dv ats ∧ ChO ys.length ats ∧ Sl wyR h' wv ws ∧ ws.length = n ∧ (∀ w, w ∈ ws → Way14 ats w) ∧ Ext [bf] h h' ∧ Feed h' bf (k + 3000) := by
  refine R_precentorlaw14_made _ _ (hX _ _ rfl) ?_
  refine Tells.prot fun Q' hQ => ?_
  unfold S_precentorlaw14_made
  try simp
  refine Tells.bind (Tree hX 5 ⟨by decide, by decide⟩ (by decide) f (by omega)) ?_
  rintro pv h1 ⟨ys, gp, _, ly, _, x1, f1⟩
  have ly := ly (by decide)
  have op := gp.1
  try simp
  refine Tells.bind (SubsH hX f1 (by omega) op (by omega)) ?_
  rintro lv h2 ⟨l, rz, fs, hl, x2, f2⟩
  have X2 := x1.trans x2
  have os : Sl sxR h2 lv l := rz.sl
  have fa : ∀ s, s ∈ l → FedF s.fl ∧ 1 ≤ s.c ∧ s.c ≤ 6 := fun s hs => ⟨(fs.f s hs).1, (fs.f s hs).2.1, (fs.f s hs).2.2.1⟩
  try simp
  refine Tells.bind (ref_Chain hX (op.ext x2) (by omega) os (by omega) fa) ?_
  rintro dv h3 ⟨ats, od, ca, x3⟩
  have X3 := X2.trans x3.of
  have la := ca.n
  try simp
  refine Tells.bind (Tells.loop (fun s t g => ∃ (i : Nat), t 0 = .ptr bf 0 ∧ t 1 = I n ∧ t 8 = pv ∧ t 9 = lv ∧ t 10 = dv ∧ t 12 = I i ∧ i + s = ats.length ∧ Gl atR h3 g (t 11) (ats.take i) ∧ Ext [] h3 g)
    (Q := fun p g => p.1 = .exit 0 ∧ p.2 0 = .ptr bf 0 ∧ p.2 1 = I n ∧ p.2 8 = pv ∧ p.2 9 = lv ∧ p.2 10 = dv ∧ Sl atR g (p.2 11) ats ∧ Ext [] h3 g) ?_ ats.length _ _ ⟨0, by simp, by simp, by simp, by simp, by simp, by simp, by omega, by simpa using Gl.nil, .refl⟩) ?_
  · rintro s t g ⟨i, t0, t1, t8, t9, t10, t12, hi, ga, xg⟩
    refine Tells.prot fun Q2 hQ2 => ?_
    unfold L_precentorlaw14_made_5
    have odg := od.ext xg
    simp [t12, t10, odg.len]
    refine Tells.cb (fun hc => ?_) (fun hc => ?_)
    · simp at hc
      obtain ⟨a, ha⟩ : ∃ a, ats[i]? = some a := ⟨_, List.getElem?_eq_getElem hc⟩
      obtain ⟨b, p, B, q1, q2, q3, q4, q5, _⟩ := at_at odg ha
      have w : IntKind.i64.wrap ((i : Int) + 1) = i + 1 := wrap_id (by omega) (by omega)
      have tk : ats.take (i + 1) = ats.take i ++ [a] := by rw [List.take_add_one, ha]; rfl
      simp [J_precentorlaw14_made_6, t10, t12, q1, q2, q3, q4, q5, bldR, fillR, splice]
      refine Tells.app1E ga (by rfl) (by rfl) (show atR.rep g [I a.1, I a.2.1, I a.2.2] a from rfl) (by rfl) (by rfl) (by simp; omega) (by decide) xg.next fun s3 g3 ga3 x3 y3 _ => ?_
      simp [J_precentorlaw14_made_7, t12, w]
      exact Tells.ok (hQ2 _ _ (.inl ⟨rfl, s - 1, by omega, i + 1, by simp [t0], by simp [t1], by simp [t8], by simp [t9], by simp [t10], by simp, by omega, by rw [tk]; simpa using ga3, y3 [] xg⟩))
    · simp at hc
      rw [List.take_of_length_le (by omega)] at ga
      exact Tells.ok (hQ2 _ _ (.inr ⟨by simp, rfl, by simp [t0], by simp [t1], by simp [t8], by simp [t9], by simp [t10], by simpa using ga.1, xg⟩))
  rintro ⟨ex, t⟩ h4 ⟨rfl, t0, t1, t8, t9, t10, oc, x4⟩
  simp only at t0 t1 t8 t9 t10 oc
  generalize hcv : t 11 = cv at oc
  have X4 := X3.trans x4.of
  have f4 := (f2.e x3).e x4
  have os4 := (os.ext x3).ext x4
  have op4 := ((op.ext x2).ext x3).ext x4
  have od4 := od.ext x4
  simp [J_precentorlaw14_made_0]
  refine Tells.bind (Tells.loop (fun s t g => ∃ (i : Nat) (ws : List (List Int)), t 0 = .ptr bf 0 ∧ t 1 = I n ∧ t 8 = pv ∧ t 9 = lv ∧ t 10 = dv ∧ t 11 = cv ∧ t 14 = I i ∧ i + s = n ∧ ws.length = i ∧ Gl wyR h4 g (t 13) ws ∧ (∀ w, w ∈ ws → Way14 ats w) ∧ Ext [bf] h4 g ∧ Feed g bf (k + 2301 + 15 * i))
    (Q := fun p g => p.1 = .exit 2 ∧ p.2 8 = pv ∧ p.2 10 = dv ∧ p.2 11 = cv ∧ ∃ ws, ws.length = n ∧ Sl wyR g (p.2 13) ws ∧ (∀ w, w ∈ ws → Way14 ats w) ∧ Ext [bf] h4 g ∧ Feed g bf (k + 3000)) ?_ n _ _ ⟨0, [], by simp [t0], by simp [t1], by simp [t8], by simp [t9], by simp [t10], by simp [hcv], by simp, by omega, rfl, by simpa using Gl.nil, by simp, .refl, f4.mono (by omega)⟩) ?_
  · rintro s t g ⟨i, ws, t0, t1, t8, t9, t10, t11, t14, hi, lw, gw, hw, xg, fg⟩
    refine Tells.prot fun Q2 hQ2 => ?_
    unfold L_precentorlaw14_made_2
    by_cases hc : i < n
    · have hc' : (i : Int) < n := by omega
      have w : IntKind.i64.wrap ((i : Int) + 1) = i + 1 := wrap_id (by omega) (by omega)
      simp [t14, t1, hc, hc', J_precentorlaw14_made_3, t9]
      refine Tells.bind (ref_Groups hX (os4.ext xg) (by omega) fa) ?_
      rintro gv g1 ⟨gs, og, hg, y1⟩
      try simp [t0]
      refine Tells.bind (AttrsH hX (fg.e y1) (by omega)) ?_
      rintro av g2 ⟨at_, ga, la5, _, fav, y2, f2'⟩
      have hgn := hg.n
      try simp
      refine Tells.bind (ref_Match hX (og.ext y2) (by omega) (fun x hx => (hg.f x hx).1) ga.1 (by omega) fav) ?_
      rintro mv g3 ⟨m, om, lm, y3⟩
      have Y3 : Ext [bf] g g3 := (y1.of.trans y2).trans y3.of
      try simp [t10]
      refine Tells.bind (ref_Walk hX ((od4.ext xg).ext Y3) (by omega) om (by omega)) ?_
      rintro wv g4 ⟨gwk, y4⟩
      have Y4 : Ext [bf] g g4 := Y3.trans y4.of
      have X4 := xg.trans Y4
      have gw4 : Gl wyR h4 g4 (t 13) ws := gw.extO Y4 (by simpa using .inl fg.m)
      have f4' := (f2'.e y3).e y4
      try simp
      refine Tells.app1 gw4 gwk.1.cells gwk.1.known (show wyR.rep g4 [wv] (walkF m ats) from ⟨wv, rfl, gwk.1⟩) (by rfl) (by rfl) (by omega) (by decide) X4.next fun s5 g5 gw5 y5 z5 _ => ?_
      simp [J_precentorlaw14_made_4, t14, w]
      have f5 := f4'.ext y5 (fun q => by have := (gw4.1.blk _ q).1; rw [f4'.m] at this; cases this)
      refine Tells.ok (hQ2 _ _ (.inl ⟨rfl, s - 1, by omega, i + 1, ws ++ [walkF m ats], by simp [t0], by simp [t1], by simp [t8], by simp [t9], by simp [t10], by simp [t11], by simp, by omega, by simp [lw], by simpa using gw5, fun w hw' => ?_, z5 [bf] X4, f5.mono (by omega)⟩))
      rcases List.mem_append.1 hw' with q | q
      · exact hw w q
      · simp at q; subst q; exact ⟨m, rfl⟩
    · have hc' : ¬ (i : Int) < n := by omega
      simp [t14, t1, hc, hc']
      exact Tells.ok (hQ2 _ _ (.inr ⟨by simp, rfl, by simp [t8], by simp [t10], by simp [t11], ws, by omega, by simpa using gw.1, hw, xg, fg.mono (by omega)⟩))
  · rintro ⟨ex, t⟩ g ⟨rfl, t8, t10, t11, ws, lw, sw, hw, xg, fg⟩
    simp only at t8 t10 t11 sw
    simp [J_precentorlaw14_made_1, t8, t10, t11]
    exact Tells.ok (hQ _ _ ⟨cv, dv, _, pv, ys, ats, ws, rfl, by omega, op4.ext xg, oc.ext xg, od4.ext xg, ca, sw, lw, hw, (X2.trans (x3.trans x4).of).trans xg, fg⟩)
end
end Go.Proofs.Ytbkfamdkdjajjaa

/-! Stamps of the feed. -/
namespace Go.Proofs.Ytbkfamdkdjajjaa
open Go.Ab

section
variable {X : XTab}

/-- A place and its next number; a stamp's place and its number. -/
def pairR : Rp (Int × Int) := ⟨2, by decide, fun _ cs x => cs = [I x.1, I x.2], fun h => by rw [h]; rfl, fun h => by rw [h]; rfl, fun h _ => h⟩

abbrev Slots := List (Int × Int)

/-- The next number of a place. -/
def nxt : Slots → Int → Int
  | [], _ => 0
  | (q, n) :: r, p => if q = p then n else nxt r p

def has (s : Slots) (p : Int) : Bool := s.any fun x => x.1 == p

def dueF (s : Slots) : Option Int → List (Int × Int) → Bool
  | _, [] => true
  | prev, (a, n) :: r => (match prev with | some b => decide (b < a) | none => true) && (!has s a || decide (nxt s a = n)) && dueF s (some a) r

def due (s : Slots) (l : List (Int × Int)) : Bool := dueF s none l

/-- Next numbers up to k. -/
def Small (s : Slots) (k : Int) : Prop := ∀ x, x ∈ s → -k ≤ x.2 ∧ x.2 ≤ k

theorem Feed.out {h : Heap} {bf k : Nat} {α : Type} {r : Rp α} {v : AVal} {xs : List α} (f : Feed h bf k) (o : Sl r h v xs) : bf ∉ v.blks := fun hb => by
  have := (o.blk bf hb).1
  rw [f.m] at this; cases this

theorem dueF_snoc {s : Slots} {a n : Int} : ∀ {l : List (Int × Int)} {p : Option Int}, (∀ x, x ∈ l → x.1 < a) → (∀ b, p = some b → b < a) → dueF s p (l ++ [(a, n)]) = (dueF s p l && (!has s a || decide (nxt s a = n)))
  | [], p, _, hp => by
    cases p with
    | none => simp [dueF]
    | some b => simp [dueF, hp b rfl]
  | (b, m) :: l, p, hl, hp => by
    have := dueF_snoc (s := s) (a := a) (n := n) (l := l) (p := some b) (fun x hx => hl x (by simp [hx])) (fun c hc => by cases hc; exact hl (b, m) (by simp))
    simp only [List.cons_append, dueF, this, Bool.and_assoc]

theorem due_snoc {s : Slots} {l : List (Int × Int)} {a n : Int} (hl : ∀ x, x ∈ l → x.1 < a) : due s (l ++ [(a, n)]) = (due s l && (!has s a || decide (nxt s a = n))) := dueF_snoc hl (fun _ h => by cases h)

theorem Stamps (hX : OnlyKnown X) {h : Heap} {bf k : Nat} (f : Feed h bf k) (hk : k + 9 < 2 ^ 62) :
    Tells (fun q => acallX Try.prog X q F_precentorhand_Feed_Stamps [.ptr bf 0] h) fun a h' => ∃ xs, Gl pairR h h' a xs ∧ Wr h h' a ∧ xs.length ≤ 4 ∧ due [] xs = true ∧ Small xs 10 ∧ Ext [bf] h h' ∧ Feed h' bf (k + 9) := by
  refine R_precentorhand_Feed_Stamps _ (hX _ _ rfl) ?_
  refine Tells.prot fun Q' hQ => ?_
  unfold S_precentorhand_Feed_Stamps
  simp
  refine Tells.bind (Next hX 5 ⟨by omega, by omega⟩ f (by omega)) ?_
  rintro _ h1 ⟨c, rfl, c0, c1, _, x1, f1⟩
  have c1 := c1 (by omega)
  try simp
  refine Tells.bind (Tells.loop (fun n t g => ∃ (i : Nat) (xs : List (Int × Int)) (a : Int), t 0 = .ptr bf 0 ∧ t 5 = I n ∧ t 4 = I a ∧ 0 ≤ a ∧ a ≤ 4 * i ∧ i + n ≤ 4 ∧ xs.length = i ∧ Gl pairR h g (t 3) xs ∧ Wr h g (t 3) ∧ due [] xs = true ∧ (∀ x, x ∈ xs → x.1 < a) ∧ Small xs 10 ∧ Ext [bf] h g ∧ Feed g bf (k + 1 + 2 * i))
    (Q := fun p g => p.1 = .exit 0 ∧ ∃ xs, Gl pairR h g (p.2 3) xs ∧ Wr h g (p.2 3) ∧ xs.length ≤ 4 ∧ due [] xs = true ∧ Small xs 10 ∧ Ext [bf] h g ∧ Feed g bf (k + 9)) ?_ c.toNat _ _ ?_) ?_
  · rintro n t g ⟨i, xs, a, t0, t5, t4, a0, a1, hi, hl, go, wr, hd, hx, sm, x, fg⟩
    refine Tells.prot fun Q2 hQ2 => ?_
    unfold L_precentorhand_Feed_Stamps_1
    simp [t5]
    refine Tells.cb (fun hc => ?_) (fun hc => ?_)
    · simp at hc
      simp [J_precentorhand_Feed_Stamps_2, t0, t4]
      refine Tells.bind (Next hX 4 ⟨by omega, by omega⟩ fg (by omega)) ?_
      rintro _ h2 ⟨u, rfl, u0, u1, _, x2, f2⟩
      have u1 := u1 (by omega)
      have w1 : IntKind.i64.wrap (a + u) = a + u := wrap_id (by omega) (by omega)
      simp [w1, t0]
      refine Tells.bind (Next hX 5 ⟨by omega, by omega⟩ f2 (by omega)) ?_
      rintro _ h3 ⟨r, rfl, r0, r1, _, x3, f3⟩
      have r1 := r1 (by omega)
      have w2 : IntKind.i64.wrap (1 + r) = 1 + r := wrap_id (by omega) (by omega)
      have w3 : IntKind.i64.wrap (a + u + 1) = a + u + 1 := wrap_id (by omega) (by omega)
      have w4 : IntKind.i64.wrap ((n : Int) - 1) = ((n - 1 : Nat) : Int) := by rw [wrap_id (by omega) (by omega)]; omega
      simp [w2, bldR, fillR, splice]
      have g3 : Gl pairR h h3 (t 3) xs := go.extO (x2.trans x3) (by simp [fg.m])
      have wr3 : Wr h h3 (t 3) := wr.ext (x2.trans x3)
      refine Tells.app1W g3 wr3 (by rfl) (by rfl) (show pairR.rep h3 [I (a + u), I (1 + r)] (a + u, 1 + r) from rfl) (by rfl) (by rfl) (by omega) (by decide) (Nat.le_trans x.next (Nat.le_trans x2.next x3.next)) fun s4 h4 g4 wr4 x4 y4 z4 => ?_
      have hxm : ∀ y, y ∈ xs → y.1 < a + u := fun y hy => by have := hx y hy; omega
      simp [w3, J_precentorhand_Feed_Stamps_3, t5, w4]
      refine Tells.ok (hQ2 _ _ (.inl ⟨rfl, n - 1, by omega, i + 1, xs ++ [(a + u, 1 + r)], a + u + 1, by simp [t0], by simp, by simp, by omega, by omega, by omega, by simp [hl], by simpa using g4, by simpa using wr4, ?_, ?_, ?_, y4 _ ((x.trans x2).trans x3), ?_⟩))
      · rw [due_snoc hxm, hd]; simp [has]
      · intro y hy
        rcases List.mem_append.1 hy with hy | hy
        · have := hxm y hy; omega
        · simp at hy; subst hy; simp; omega
      · intro y hy
        rcases List.mem_append.1 hy with hy | hy
        · exact sm y hy
        · simp at hy; subst hy; simp; omega
      · exact (f3.ext x4 (fg.out go.1)).mono (by omega)
    · simp at hc
      exact Tells.ok (hQ2 _ _ (.inr ⟨by simp, rfl, xs, by simpa using go, by simpa using wr, by omega, hd, sm, x, fg.mono (by omega)⟩))
  · exact ⟨0, [], 0, by simp, by simp; omega, by simp, by omega, by omega, by omega, rfl, by simpa using Gl.nil, fun b hb => by simp [AVal.blks] at hb, rfl, by simp, fun _ h => by simp at h, x1, f1.mono (by omega)⟩
  · rintro ⟨ex, t⟩ g ⟨rfl, xs, go, wr, hl, hd, sm, x, fg⟩
    simp [J_precentorhand_Feed_Stamps_0]
    exact Tells.ok (hQ _ _ ⟨xs, go, wr, hl, hd, sm, x, fg⟩)

end
end Go.Proofs.Ytbkfamdkdjajjaa

/-! seq.New, own, Count, has, of any chain. -/
namespace Go.Proofs.Ytbkfamdkdjajjaa
open Go.Ab

/-! ### the plain law: counts of a broker's atoms; -1: it is not the broker's -/
def cntC (cs : List Int) (p : Int) : Int := cs[p.toNat]?.getD 0
def ownC (cs : List Int) (p : Int) : Bool := decide (0 ≤ p) && (decide (p < cs.length) && decide (0 ≤ cntC cs p))
def newC (ats : List (Int × Int × Int)) (b : Int) : List Int := ats.map fun a => if a.2.2 = b then 0 else -1
/-- Along the broker's atoms. -/
def psF (way : List Int) (last : Int) : Nat → List Int → Int → List (Int × Int) → List Int × Int × List (Int × Int)
  | 0, cs, p, st => (cs, p, st)
  | k + 1, cs, p, st => if p ≤ last ∧ ownC cs p = true then
      (if way.any (· == p) = true then psF way last k (cs.set p.toNat (cntC cs p + 1)) (p + 1) (st ++ [(p, cntC cs p + 1)]) else psF way last k cs (p + 1) st) else (cs, p, st)
theorem ownC_at {cs : List Int} {p : Int} (h : ownC cs p = true) : ∃ i c : Nat, p = i ∧ i < cs.length ∧ cs[i]? = some (c : Int) ∧ cntC cs p = c := by
  simp only [ownC, Bool.and_eq_true, decide_eq_true_eq] at h
  obtain ⟨h1, h2, h3⟩ := h
  have hl : p.toNat < cs.length := by omega
  have e : cs[p.toNat]? = some cs[p.toNat] := List.getElem?_eq_getElem hl
  have h4 : cntC cs p = cs[p.toNat] := by simp [cntC, e]
  refine ⟨p.toNat, (cs[p.toNat]).toNat, by omega, hl, ?_, ?_⟩
  · rw [e]; congr 1; omega
  · omega
def mineV (c : Int) : AVal := .bool (decide (0 ≤ c))
def countV (c : Int) : AVal := I (max 0 c)
theorem set_mine {cs : List Int} {i c : Nat} (h : cs[i]? = some (c : Int)) : (cs.set i ((c : Int) + 1)).map mineV = cs.map mineV := by
  apply List.ext_getElem?
  intro j
  rw [List.map_set, List.getElem?_set]
  by_cases e : i = j
  · subst e
    have hl := (List.getElem?_eq_some_iff.1 h).1
    rw [if_pos rfl, if_pos (by simpa using hl), List.getElem?_map, h]
    simp [mineV]; omega
  · rw [if_neg e]
theorem set_count {cs : List Int} {i c : Nat} : (cs.map countV).set i (I ((c : Int) + 1)) = (cs.set i ((c : Int) + 1)).map countV := by
  rw [List.map_set]
  congr 1
theorem zeros_rep (z : AVal) (n : Nat) : zeros [z] n = List.replicate n z := by
  induction n with
  | zero => rfl
  | succ n ih =>
    show [z] ++ zeros [z] n = _
    rw [ih]; rfl

/-- A Seq: places that are its own, counts. -/
structure SeqG (h : Heap) (bs bm bn : Nat) (cs : List Int) : Prop where
  s : Ob h bs [.sl bm 0 cs.length cs.length 1 true, .sl bn 0 cs.length cs.length 1 true]
  m : Ob h bm (cs.map mineV)
  n : Ob h bn (cs.map countV)
  sm : bs ≠ bm
  sn : bs ≠ bn
  mn : bm ≠ bn
theorem SeqG.ext {S : List Nat} {h h' : Heap} {bs bm bn : Nat} {cs : List Int} (o : SeqG h bs bm bn cs) (x : Ext S h h') (h1 : bs ∉ S) (h2 : bm ∉ S) (h3 : bn ∉ S) : SeqG h' bs bm bn cs := ⟨o.s.ext x h1, o.m.ext x h2, o.n.ext x h3, o.sm, o.sn, o.mn⟩
theorem SeqG.e {h h' : Heap} {bs bm bn : Nat} {cs : List Int} (o : SeqG h bs bm bn cs) (x : Ext [] h h') : SeqG h' bs bm bn cs := o.ext x (by simp) (by simp) (by simp)

section
variable {X : XTab}

theorem seq_ownG (hX : OnlyKnown X) {h : Heap} {bs bm bn : Nat} {cs : List Int} (o : SeqG h bs bm bn cs) (p : Int) :
    Tells (fun q => acallX Try.prog X q F_seq_Seq_own [.ptr bs 0, I p] h) fun a h' => a = .bool (ownC cs p) ∧ h' = h := by
  refine R_seq_Seq_own _ _ (hX _ _ rfl) ?_
  refine Tells.prot fun Q' hQ => ?_
  unfold S_seq_Seq_own
  by_cases c1 : 0 ≤ p
  · by_cases c2 : p < cs.length
    · obtain ⟨i, rfl⟩ : ∃ n : Nat, p = n := ⟨p.toNat, by omega⟩
      have c2' : i < cs.length := by omega
      have q := ixs_made (b := bm) (k := cs.length) (c := cs.length) (z := 1) (i := i) c2'
      obtain ⟨c, hc⟩ : ∃ c, cs[i]? = some c := ⟨_, List.getElem?_eq_getElem c2'⟩
      have hc2 := (List.getElem?_eq_some_iff.1 hc).2
      have ht : ownC cs (i : Int) = decide (0 ≤ c) := by simp [ownC, c2', cntC, hc, hc2]
      rw [Nat.mul_one] at q
      simp [o.s.1, o.m.1, lenL, c2, c2', q, hc, hc2, mineV]
      exact Tells.ok (hQ _ _ ⟨by rw [ht], rfl⟩)
    · have ht : ownC cs p = false := by simp [ownC, c2]
      simp [c1, o.s.1, lenL, c2]
      exact Tells.ok (hQ _ _ ⟨by rw [ht], rfl⟩)
  · have ht : ownC cs p = false := by simp [ownC, c1]
    simp [c1]
    exact Tells.ok (hQ _ _ ⟨by rw [ht], rfl⟩)

theorem seq_CountG (hX : OnlyKnown X) {h : Heap} {bs bm bn : Nat} {cs : List Int} (o : SeqG h bs bm bn cs) (p : Int) :
    Tells (fun q => acallX Try.prog X q F_seq_Seq_Count [.ptr bs 0, I p] h) fun a h' => a = I (if ownC cs p = true then cntC cs p else 0) ∧ h' = h := by
  refine R_seq_Seq_Count _ _ (hX _ _ rfl) ?_
  refine Tells.prot fun Q' hQ => ?_
  unfold S_seq_Seq_Count
  simp
  refine Tells.bind (seq_ownG hX o p) ?_
  rintro _ h ⟨rfl, rfl⟩
  cases ho : ownC cs p with
  | false =>
    simp
    exact Tells.ok (hQ _ _ ⟨by simp [ho], rfl⟩)
  | true =>
    obtain ⟨i, c, rfl, hl, hc, hv⟩ := ownC_at ho
    have q := ixs_made (b := bn) (k := cs.length) (c := cs.length) (z := 1) (i := i) hl
    rw [Nat.mul_one] at q
    have e : (cs.map countV)[i]? = some (I c) := by rw [List.getElem?_map, hc]; simp [countV]
    rw [List.getElem?_map] at e
    simp [J_seq_Seq_Count_0, o.s.1, o.n.1, q, e]
    exact Tells.ok (hQ _ _ ⟨by simp [hv, ho], rfl⟩)

theorem seq_hasG (hX : OnlyKnown X) {h : Heap} {v : AVal} {xs : List Int} (o : Sl intR h v xs) (hl : xs.length < 2 ^ 62) (a : Int) :
    Tells (fun q => acallX Try.prog X q F_seq_has [v, I a] h) fun r h' => r = .bool (xs.any (· == a)) ∧ h' = h := by
  refine R_seq_has _ _ (hX _ _ rfl) ?_
  refine Tells.prot fun Q' hQ => ?_
  unfold S_seq_has
  have hlen := o.len
  simp [hlen]
  refine Tells.bind (Tells.loop (fun n t g => ∃ i : Nat, t 1 = I a ∧ t 7 = v ∧ t 8 = I xs.length ∧ t 9 = I i ∧ i + n = xs.length ∧ (∀ y, y ∈ xs.take i → (y == a) = false) ∧ g = h)
    (Q := fun p g => g = h ∧ ((p.1 = .ret ∧ p.2 4 = .bool true ∧ xs.any (· == a) = true) ∨ (p.1 = .exit 0 ∧ xs.any (· == a) = false))) ?_ xs.length _ _ ⟨0, by simp, by simp, by simp, by simp, by omega, by simp, rfl⟩) ?_
  · rintro n t g ⟨i, t1, t7, t8, t9, hi, hno, rfl⟩
    refine Tells.prot fun Q2 hQ2 => ?_
    unfold L_seq_has_1
    simp [t8, t9]
    refine Tells.cb (fun hc => ?_) (fun hc => ?_)
    · simp at hc
      obtain ⟨x, hx⟩ : ∃ x, xs[i]? = some x := ⟨_, List.getElem?_eq_getElem hc⟩
      obtain ⟨b, pp, B, q1, q2, q3⟩ := o.atI hx
      have w : IntKind.i64.wrap ((i : Int) + 1) = i + 1 := wrap_id (by omega) (by omega)
      by_cases e : x = a
      · subst e
        simp [J_seq_has_2, t7, t9, t1, q1, q2, q3]
        exact Tells.ok (hQ2 _ _ (.inr ⟨by simp, rfl, .inl ⟨rfl, by simp, List.any_eq_true.2 ⟨x, List.mem_of_getElem? hx, by simp⟩⟩⟩))
      · simp [J_seq_has_2, t7, t9, t1, q1, q2, q3, beq_eq_false_iff_ne.2 e, J_seq_has_3, w]
        refine Tells.ok (hQ2 _ _ (.inl ⟨rfl, n - 1, by omega, i + 1, by simp [t1], by simp [t7], by simp [t8], by simp, by omega, fun y hy => ?_, rfl⟩))
        rw [List.take_add_one, hx] at hy
        rcases List.mem_append.1 hy with k | k
        · exact hno y k
        · simp at k; subst k; exact beq_eq_false_iff_ne.2 e
    · simp at hc
      rw [List.take_of_length_le (by omega)] at hno
      exact Tells.ok (hQ2 _ _ (.inr ⟨by simp, rfl, .inr ⟨rfl, by rw [List.any_eq_false]; intro y hy; simpa using hno y hy⟩⟩))
  · rintro ⟨ex, t⟩ g ⟨rfl, ⟨rfl, t4, hy⟩ | ⟨rfl, hn⟩⟩
    · have t4 : t 4 = .bool true := t4
      simp [t4]
      exact Tells.ok (hQ _ _ ⟨by rw [hy], rfl⟩)
    · simp [J_seq_has_0]
      exact Tells.ok (hQ _ _ ⟨by rw [hn], rfl⟩)

theorem seq_NewG (hX : OnlyKnown X) {h : Heap} {v : AVal} {ats : List (Int × Int × Int)} (o : Sl atR h v ats) (hl : ats.length ≤ 4000) (b : Int) :
    Tells (fun q => acallX Try.prog X q F_seq_New [v, I b] h) fun a h' => ∃ bs bm bn, a = .ptr bs 0 ∧ SeqG h' bs bm bn (newC ats b) ∧ Ext [] h h' ∧ h.next ≤ bs ∧ h.next ≤ bm ∧ h.next ≤ bn := by
  refine R_seq_New _ _ (hX _ _ rfl) ?_
  refine Tells.prot fun Q' hQ => ?_
  unfold S_seq_New
  have hlen := o.len
  simp [hlen]
  refine Tells.makV (k := ats.length) (cs := List.replicate ats.length (.bool false)) (by rfl) (by omega) (by omega) (zeros_rep _ _) fun h1 bm e1 m1 x1 => ?_
  try simp
  refine Tells.makV (k := ats.length) (cs := List.replicate ats.length (I 0)) (by rfl) (by omega) (by omega) (zeros_rep _ _) fun h2 bn e2 n2 x2 => ?_
  simp [bldR, fillR, splice]
  refine Tells.boxV rfl rfl fun h3 bs s3 x3 l3 => ?_
  have k1 := x1.next
  have k2 := x2.next
  have k3 := x3.next
  have l1 := m1.lt
  have l2 := n2.lt
  have l4 := s3.lt
  have m3 := (m1.e x2).e x3
  have n3 := n2.e x3
  have x13 := (x1.trans x2).trans x3
  have sm : bs ≠ bm := by omega
  have sn : bs ≠ bn := by omega
  have mn : bm ≠ bn := by omega
  have rc : List.replicate ats.length (I 0) = (newC ats b).map countV := by
    unfold newC
    rw [List.map_map]
    refine (List.eq_replicate_iff.2 ⟨by simp, fun x hx => ?_⟩).symm
    obtain ⟨a, _, rfl⟩ := List.mem_map.1 hx
    show countV (if a.2.2 = b then 0 else -1) = I 0
    split <;> rfl
  try simp [hlen]
  refine Tells.bind (Tells.loop (fun n t g => ∃ i : Nat, t 1 = I b ∧ t 5 = .ptr bs 0 ∧ t 16 = v ∧ t 17 = I ats.length ∧ t 18 = I i ∧ i + n = ats.length ∧ Ob g bs [.sl bm 0 ats.length ats.length 1 true, .sl bn 0 ats.length ats.length 1 true] ∧ Ob g bm ((newC (ats.take i) b).map mineV ++ List.replicate n (.bool false)) ∧ Ob g bn (List.replicate ats.length (I 0)) ∧ Ext [] h g)
    (Q := fun p g => p.1 = .exit 0 ∧ p.2 5 = .ptr bs 0 ∧ SeqG g bs bm bn (newC ats b) ∧ Ext [] h g) ?_ ats.length _ _ ⟨0, by simp, by simp, by simp, by simp, by simp, by omega, s3, by simpa [newC] using m3, n3, x13⟩) ?_
  · rintro n t g ⟨i, t1, t5, t16, t17, t18, hi, os, om, on, x⟩
    refine Tells.prot fun Q2 hQ2 => ?_
    unfold L_seq_New_1
    simp [t17, t18]
    refine Tells.cb (fun hc => ?_) (fun hc => ?_)
    · simp at hc
      obtain ⟨a, ha⟩ : ∃ a, ats[i]? = some a := ⟨_, List.getElem?_eq_getElem hc⟩
      obtain ⟨bb, p, B, q1, q2, q3, q4, q5, q6, q7⟩ := at_at (o.ext x) ha
      have wi : IntKind.i64.wrap ((i : Int) + 1) = i + 1 := wrap_id (by omega) (by omega)
      simp [J_seq_New_2, t16, t18, q1, q2, q6, q7]
      refine Tells.newSt (ds := [I a.1, I a.2.1, I a.2.2]) (by rfl) (by rfl) (by rfl) (by rfl) fun h4 bx o4 x4 l4 => ?_
      have k4 := x.next
      have x05 := x.trans x4
      have os5 := os.e x4
      have om5 := om.e x4
      have on5 := on.e x4
      have hix := ixs_made (b := bm) (k := ats.length) (c := ats.length) (z := 1) (i := i) hc
      rw [Nat.mul_one] at hix
      simp [t5, t1, os5.1, o4.1, hix]
      have lm : ((newC (ats.take i) b).map mineV).length = i := by simp [newC]; omega
      refine Tells.st1E om5 (by rfl) (by rfl) (by rw [List.length_append, lm]; simp; omega) fun h6 o6 x6 => ?_
      simp [J_seq_New_3, t18, wi]
      obtain ⟨m, rfl⟩ : ∃ m, n = m + 1 := ⟨n - 1, by omega⟩
      have tk : (newC (ats.take (i + 1)) b).map mineV = (newC (ats.take i) b).map mineV ++ [.bool (a.2.2 == b)] := by
        rw [List.take_add_one, ha]
        simp only [newC, Option.toList_some, List.map_append, List.map_cons, List.map_nil]
        congr 2
        by_cases e : a.2.2 = b
        · simp [e, mineV]
        · simp [e, mineV, beq_eq_false_iff_ne.2 e]
      refine Tells.ok (hQ2 _ _ (.inl ⟨rfl, m, by omega, i + 1, by simp [t1], by simp [t5], by simp [t16], by simp [t17], by simp, by omega, os5.ext x6 (by simpa using sm), ?_, on5.ext x6 (by simpa using Ne.symm mn), x05.then x6 (by simp; omega)⟩))
      rw [tk]
      rw [List.set_append_right _ _ (by omega), lm, Nat.sub_self, List.replicate_succ, List.set_cons_zero] at o6
      simpa using o6
    · simp at hc
      have : n = 0 := by omega
      subst this
      rw [List.take_of_length_le (by omega)] at om
      have ln : (newC ats b).length = ats.length := by simp [newC]
      exact Tells.ok (hQ2 _ _ (.inr ⟨by simp, rfl, by simp [t5], ⟨by rw [ln]; exact os, by simpa using om, by rw [← rc]; exact on, sm, sn, mn⟩, x⟩))
  · rintro ⟨ex, t⟩ g ⟨rfl, t5, so, x⟩
    simp only at t5
    simp [J_seq_New_0, t5]
    exact Tells.ok (hQ _ _ ⟨bs, bm, bn, rfl, so, x, by omega, by omega, by omega⟩)
end
end Go.Proofs.Ytbkfamdkdjajjaa

/-! precentorref1.SameAttrs (printed by mk14.py). -/
namespace Go.Proofs.Ytbkfamdkdjajjaa
open Go.Ab

section
variable {X : XTab}

theorem ref_SameAttrs (hX : OnlyKnown X) {h : Heap} {v u : AVal} {l m : List Att} (o : Sl attrR h v l) (p : Sl attrR h u m) (hl : l.length < 2 ^ 60) (hm : m.length < 2 ^ 60) :
    Tells (fun q => acallX Try.prog X q F_precentorref1_SameAttrs [v, u] h) fun r h' => r = .bool (sameA l m) ∧ Ext [] h h' := by
  refine R_precentorref1_SameAttrs _ _ (hX _ _ rfl) ?_
  refine Tells.prot fun Q' hQ => ?_
  unfold S_precentorref1_SameAttrs
  by_cases hlen : l.length = m.length
  · have hb : ((l.length : Int) != m.length) = false := by simp [hlen]
    simp [o.len, p.len, hb, J_precentorref1_SameAttrs_0]
    refine Tells.bind (Tells.loop (fun n t g => ∃ i : Nat, t 0 = v ∧ t 1 = u ∧ t 5 = I i ∧ i + n = l.length ∧ Ext [] h g ∧ sameA l m = sameA (l.drop i) (m.drop i))
      (Q := fun p g => Ext [] h g ∧ ((p.1 = .exit 0 ∧ sameA l m = true) ∨ (p.1 = .ret ∧ p.2 4 = .bool false ∧ sameA l m = false))) ?_ l.length _ _ ?_) ?_
    · rintro n t g ⟨i, t0, t1, t5, hi, x, hs⟩
      refine Tells.prot fun Q2 hQ2 => ?_
      unfold L_precentorref1_SameAttrs_2
      simp [t0, t5, (o.ext x).len]
      refine Tells.cb (fun hc => ?_) (fun hc => ?_)
      · simp at hc
        obtain ⟨a, ha⟩ : ∃ a, l[i]? = some a := ⟨_, List.getElem?_eq_getElem hc⟩
        obtain ⟨b, hb⟩ : ∃ b, m[i]? = some b := ⟨_, List.getElem?_eq_getElem (by omega)⟩
        obtain ⟨b1, p1, B1, q1, q2, q3, q4, q5, q6, q7⟩ := att_at (o.ext x) ha
        obtain ⟨b2, p2, B2, r1, r2, r3, r4, r5, r6, r7⟩ := att_at (p.ext x) hb
        have w : IntKind.i64.wrap ((i : Int) + 1) = i + 1 := wrap_id (by omega) (by omega)
        rw [sameA_drop ha hb] at hs
        cases c : (a.1.toList == b.1.toList) with
        | false =>
          simp [J_precentorref1_SameAttrs_3, t0, t1, t5, q1, q2, q5, r1, r2, r5, c]
          exact Tells.ok (hQ2 _ _ (.inr ⟨by simp, x, .inr ⟨rfl, by simp, by rw [hs, c]; rfl⟩⟩))
        | true =>
          simp [J_precentorref1_SameAttrs_3, t0, t1, t5, q1, q2, q5, q6, q7, r1, r2, r5, r6, r7, c]
          refine Tells.cbE (ref_SameValue hX a.2 b.2 g) ?_
          rintro _ g2 ⟨rfl, x2⟩
          cases c2 : sameV a.2 b.2 with
          | false =>
            try simp
            exact Tells.ok (hQ2 _ _ (.inr ⟨by simp, x.trans x2, .inr ⟨rfl, by simp, by rw [hs, c, c2]; rfl⟩⟩))
          | true =>
            simp [J_precentorref1_SameAttrs_4, t5, w]
            exact Tells.ok (hQ2 _ _ (.inl ⟨rfl, n - 1, by omega, i + 1, by simp [t0], by simp [t1], by simp, by omega, x.trans x2, by rw [hs, c, c2]; rfl⟩))
      · simp at hc
        refine Tells.ok (hQ2 _ _ (.inr ⟨by simp, x, .inl ⟨rfl, ?_⟩⟩))
        rw [hs, List.drop_eq_nil_of_le (by omega), List.drop_eq_nil_of_le (by omega)]
        rfl
    · exact ⟨0, by simp, by simp, by simp, by omega, .refl, rfl⟩
    · rintro ⟨ex, t⟩ g ⟨x, ⟨rfl, hs⟩ | ⟨rfl, t4, hs⟩⟩
      · simp [J_precentorref1_SameAttrs_1]
        exact Tells.ok (hQ _ _ ⟨by rw [hs], x⟩)
      · simp only at t4
        simp [t4]
        exact Tells.ok (hQ _ _ ⟨by rw [hs], x⟩)
  · have hb : ((l.length : Int) != m.length) = true := by simp; omega
    simp [o.len, p.len, hb]
    exact Tells.ok (hQ _ _ ⟨by rw [sameA_len hlen], .refl⟩)

end
end Go.Proofs.Ytbkfamdkdjajjaa

/-! Events: their form, the feed's, when two are the same. -/
namespace Go.Proofs.Ytbkfamdkdjajjaa
open Go.Ab

/-- An event: client, broker, number, epoch, place; attributes; stamps. -/
structure Ev where
  c : Int
  b : Int
  s : Int
  e : Int
  p : Int
  ats : List Att
  sts : List (Int × Int)
def evC (x : Ev) (va vs : AVal) : List AVal := [I x.c, I x.b, I x.s, I x.e, I x.p, va, vs]
/-- No block of v's is of a class that began ahead of K. -/
def UpK (K : Nat) (h : Heap) (v : AVal) : Prop := ∀ b, b ∈ v.blks → K ≤ h.root b ∧ h.n0 ≤ b ∧ b < h.next
theorem UpK.ext {S : List Nat} {K : Nat} {h h' : Heap} {v : AVal} (w : UpK K h v) (e : Ext S h h') : UpK K h' v := fun b hb => by
  obtain ⟨w1, w2, w3⟩ := w b hb
  exact ⟨by rw [root_ext e w3]; exact w1, by rw [e.n0]; exact w2, Nat.lt_of_lt_of_le w3 e.next⟩
theorem UpK.of {K : Nat} {h0 h : Heap} {v : AVal} (w : Wr h0 h v) (hK : K ≤ h0.next) : UpK K h v := fun b hb => ⟨Nat.le_trans hK (w b hb).1, (w b hb).2⟩
def evR (K : Nat) : Rp Ev := ⟨7, by decide, fun h cs x => ∃ va vs, cs = evC x va vs ∧ Sl attrR h va x.ats ∧ Sl pairR h vs x.sts ∧ UpK K h va ∧ UpK K h vs, fun ⟨_, _, h, _, _⟩ => by rw [h]; rfl, fun ⟨_, _, h, a, b, _⟩ => by rw [h]; simp [evC, a.one, b.one],
  fun ⟨va, vs, h, a, b, c, d⟩ e => ⟨va, vs, h, a.ext e, b.ext e, c.ext e, d.ext e⟩⟩
/-- An event of the feed. -/
structure FedE (x : Ev) : Prop where
  c : 1 ≤ x.c ∧ x.c ≤ 6
  b : 0 ≤ x.b ∧ x.b < 8
  s : 1 ≤ x.s ∧ x.s ≤ 2 ^ 62
  e : 0 ≤ x.e ∧ x.e < 4
  p : 0 ≤ x.p ∧ x.p < 9
  ats : x.ats.length ≤ 5
  sts : x.sts.length ≤ 4
  sm : Small x.sts 10
def ev0 : Ev := ⟨0, 0, 0, 0, 0, [], []⟩

theorem ev_at {K : Nat} {h : Heap} {v : AVal} {es : List Ev} (o : Sl (evR K) h v es) {i : Nat} {x : Ev} (hx : es[i]? = some x) :
    ∃ b p B va vs, ixsR 7 v (.int .i64 (i : Int)) = some (.ptr b p) ∧ h.get b = some B ∧ p + 7 ≤ B.length ∧ (B.drop p).take 7 = evC x va vs ∧ Sl attrR h va x.ats ∧ Sl pairR h vs x.sts ∧ UpK K h va ∧ UpK K h vs ∧ B[p]? = some (I x.c) ∧ B[p + 2]? = some (I x.s) ∧ B[p + 5]? = some va ∧ B[p + 6]? = some vs := by
  obtain ⟨b, p, B, c, q1, e, va, vs, rfl, oa, os, ua, us⟩ := o.at (n := 7) rfl (i := (i : Int)) (by omega) (by simpa using hx)
  have l := e.le
  have e0 := e.eq
  simp only [evC, List.length_cons, List.length_nil] at l e0
  exact ⟨b, p, B, va, vs, q1, e.get, by omega, e0, oa, os, ua, us, e.cell0 (by simp [evC]), e.cell (k := 2) (by simp [evC]), e.cell (k := 5) (by simp [evC]), e.cell (k := 6) (by simp [evC])⟩

section
variable {X : XTab}
theorem EventH (hX : OnlyKnown X) {h : Heap} {bf k : Nat} (f : Feed h bf k) (hk : k < 2 ^ 59) :
    Tells (fun q => acallX Try.prog X q F_precentorhand_Feed_Event [.ptr bf 0] h) fun r h' => ∃ (x : Ev) (va vs : AVal), r = .agg (evC x va vs) ∧ FedE x ∧ Gl attrR h h' va x.ats ∧ Wr h h' va ∧ Gl pairR h h' vs x.sts ∧ Wr h h' vs ∧ (∃ hm, (∀ c, c ∈ va.blks → h'.root c < hm) ∧ UpK hm h' vs) ∧ Ext [bf] h h' ∧ Feed h' bf (k + 31) := by
  refine R_precentorhand_Feed_Event _ (hX _ _ rfl) ?_
  refine Tells.prot fun Q' hQ => ?_
  unfold S_precentorhand_Feed_Event
  try simp
  refine Tells.new fun h1 b0 o1 x1 l1 => ?_
  have f1 := f.e x1
  have hb0 : bf ≠ b0 := by have := f.lt; omega
  try simp
  refine Tells.bind (Next hX 6 ⟨by decide, by decide⟩ f1 (by omega)) ?_
  rintro _ h2 ⟨c, rfl, c0, c1, _, x2, f2⟩
  have c1 := c1 (by decide)
  have w1 : IntKind.i64.wrap (1 + c) = 1 + c := wrap_id (by omega) (by omega)
  simp [w1]
  refine Tells.bind (Next hX 8 ⟨by decide, by decide⟩ f2 (by omega)) ?_
  rintro _ h3 ⟨b, rfl, b0', b1, _, x3, f3⟩
  have b1 := b1 (by decide)
  try simp
  refine Tells.bind (Next hX 300 ⟨by decide, by decide⟩ f3 (by omega)) ?_
  rintro _ h4 ⟨s, rfl, s0, s1, _, x4, f4⟩
  have s1 := s1 (by decide)
  have w2 : IntKind.i64.wrap (1 + s) = 1 + s := wrap_id (by omega) (by omega)
  simp [w2]
  refine Tells.bind (Next hX 4 ⟨by decide, by decide⟩ f4 (by omega)) ?_
  rintro _ h5 ⟨e, rfl, e0, e1, _, x5, f5⟩
  have e1 := e1 (by decide)
  try simp
  refine Tells.bind (Next hX 9 ⟨by decide, by decide⟩ f5 (by omega)) ?_
  rintro _ h6 ⟨p, rfl, p0, p1, _, x6, f6⟩
  have p1 := p1 (by decide)
  try simp
  refine Tells.bind (AttrsW hX f6 (by omega)) ?_
  rintro va h7 ⟨ats, ga, wa, la, hs, hv, x7, f7⟩
  try simp
  refine Tells.bind (Stamps hX f7 (by omega)) ?_
  rintro vs h8 ⟨sts, gs, ws, ls, ds, sm, x8, f8⟩
  have x06 : Ext [bf] h h6 := ((((x1.of.trans x2).trans x3).trans x4).trans x5).trans x6
  have o8 := (((((((o1.ext x2 (by simpa using hb0.symm)).ext x3 (by simpa using hb0.symm)).ext x4 (by simpa using hb0.symm)).ext x5 (by simpa using hb0.symm)).ext x6 (by simpa using hb0.symm)).ext x7 (by simpa using hb0.symm)).ext x8 (by simpa using hb0.symm))
  have ga8 : Gl attrR h h8 va ats := (ga.extO x8 (by simpa using .inl f7.m)).back x06.next
  have wa8 : Wr h h8 va := (wa.ext x8).back x06.next
  have gs8 : Gl pairR h h8 vs sts := gs.back (x06.trans x7).next
  have ws8 : Wr h h8 vs := ws.back (x06.trans x7).next
  have hd : (∀ c, c ∈ va.blks → h8.root c < h7.next) ∧ UpK h7.next h8 vs := ⟨fun c hc => by have := (wa c hc).2.2; have := root_le h8 c; omega, ws⟩
  simp [bldR, fillR, splice, ga8.1.known, ga8.1.cells, gs8.1.known, gs8.1.cells]
  refine Tells.newSt (ds := [I (1 + c), I b, I (1 + s), I e, I p, va, vs]) (by rfl) (by rfl) (by rfl) (by simp [ga8.1.one, gs8.1.one]) fun h9 be oe x9 l9 => ?_
  have f9 := f8.e x9
  have o9 := o8.e x9
  have hbe : be ≠ bf := by have := f8.lt; omega
  have hb2 : be ≠ b0 := by have := o8.lt; omega
  try simp
  refine Tells.bind (Next hX 6 ⟨by decide, by decide⟩ f9 (by omega)) ?_
  rintro _ h10 ⟨z, rfl, z0, z1, _, x10, f10⟩
  have oe10 := oe.ext x10 (by simpa using hbe)
  have o10 := o9.ext x10 (by simpa using hb0.symm)
  have x08 : Ext [bf] h h8 := (x06.trans x7).trans x8
  have fin : ∀ (g : Heap) (t : T) (x : Ev) (K : Nat), t 2 = .ptr b0 0 → t 3 = .ptr be 0 → x.ats = ats → x.sts = sts → FedE x → Ob g be (evC x va vs) → Ob g b0 [I 0, I 0, I 0, I 0, I 0, .nils, .nils] → Gl attrR h g va ats → Wr h g va → Gl pairR h g vs sts → Wr h g vs → ((∀ c, c ∈ va.blks → g.root c < h7.next) ∧ UpK h7.next g vs) → Ext [bf] h g → Feed g bf K → K ≤ k + 31 → Tells (fun m => J_precentorhand_Feed_Event_0 Try.prog (acallX Try.prog X m) m (retK Try.prog [.cell 2 30]) t g) Q' := by
    intro g t x K t2 t3 e1 e2 fe oe o0 ga wa gs ws hd xg fg hK
    have hob : b0 ∉ va.blks := ga.1.ob o0
    have hob2 : b0 ∉ vs.blks := gs.1.ob o0
    simp [J_precentorhand_Feed_Event_0, t2, t3, oe.1, evC]
    refine Tells.stN o0 (ds := evC x va vs) (by rfl) (by rfl) (by simp [evC, ga.1.one, gs.1.one]) (by rfl) fun g2 o2 x2 => ?_
    simp [t2, C_precentorhand_Feed_Event_0, o2.1, evC]
    exact Tells.ok (hQ _ _ ⟨x, va, vs, rfl, fe, by rw [e1]; exact ga.ext x2 (fun b hb q => hob (by rw [← List.mem_singleton.1 q]; exact hb)), wa.ext x2, by rw [e2]; exact gs.ext x2 (fun b hb q => hob2 (by rw [← List.mem_singleton.1 q]; exact hb)), ws.ext x2, ⟨h7.next, fun c hc => by rw [root_ext x2 (wa c hc).2.2]; exact hd.1 c hc, hd.2.ext x2⟩, xg.then x2 fun w hw => .inr (by simp at hw; omega), (fg.ext x2 (by simpa using hb0)).mono hK⟩)
  have carry : ∀ {S : List Nat} {g : Heap}, Ext S h8 g → (∀ b, b ∈ S → h8.isM b = true ∨ h8.next ≤ b) → Gl attrR h g va ats ∧ Wr h g va ∧ Gl pairR h g vs sts ∧ Wr h g vs ∧ ((∀ c, c ∈ va.blks → g.root c < h7.next) ∧ UpK h7.next g vs) := fun x hS => ⟨ga8.extO x hS, wa8.ext x, gs8.extO x hS, ws8.ext x, fun c hc => by rw [root_ext x (wa8 c hc).2.2]; exact hd.1 c hc, hd.2.ext x⟩
  have x810 : Ext [bf] h8 h10 := x9.of.trans x10
  by_cases hz : z = 0
  · simp [hz]
    refine Tells.bind (Next hX 3 ⟨by decide, by decide⟩ f10 (by omega)) ?_
    rintro _ h11 ⟨y, rfl, y0, y1, _, x11, f11⟩
    have y1 := y1 (by decide)
    have w3 : IntKind.i64.wrap (4611686018427387904 - y) = 4611686018427387904 - y := wrap_id (by omega) (by omega)
    have oe11 := oe10.ext x11 (by simpa using hbe)
    have o11 := o10.ext x11 (by simpa using hb0.symm)
    simp [w3]
    refine Tells.st1 oe11 (by rfl) (by rfl) (by simp) fun h12 oe12 x12 => ?_
    have o12 := o11.ext x12 (by simpa using hb2.symm)
    have x812 : Ext [bf] h8 h12 := (x810.trans x11).then x12 fun w hw => .inr (by simp at hw; omega)
    obtain ⟨c1', c2', c3', c4', c5'⟩ := carry x812 (by simpa using .inl f8.m)
    try simp
    exact fin h12 _ ⟨1 + c, b, 4611686018427387904 - y, e, p, ats, sts⟩ (k + 31) (by simp) (by simp) rfl rfl ⟨by simp; omega, by simp; omega, by simp; omega, by simp; omega, by simp; omega, la, ls, sm⟩ oe12 o12 c1' c2' c3' c4' c5' (x08.trans x812) ((f11.ext x12 (by simpa using hbe.symm)).mono (by omega)) (Nat.le_refl _)
  · have hz' : (z == 0) = false := beq_eq_false_iff_ne.2 hz
    obtain ⟨c1', c2', c3', c4', c5'⟩ := carry x810 (by simpa using .inl f8.m)
    simp [hz']
    exact fin h10 _ ⟨1 + c, b, 1 + s, e, p, ats, sts⟩ (k + 31) (by simp) (by simp) rfl rfl ⟨by simp; omega, by simp; omega, by simp; omega, by simp; omega, by simp; omega, la, ls, sm⟩ oe10 o10 c1' c2' c3' c4' c5' (x08.trans x810) (f10.mono (by omega)) (Nat.le_refl _)
end
end Go.Proofs.Ytbkfamdkdjajjaa
