/-
  What tree.up tells.
-/
import Derived.Test.YtebkohdmoaginaaRoom
import Derived.Test.YtebkohdmoaginaaHandT
import Derived.Test.YtebkohdmoaginaaStree
set_option linter.unusedVariables false
set_option linter.unusedSimpArgs false
namespace Go.Ab

theorem app1_form {α : Type} {r : Rp α} {h0 h h' : Heap} {n by_ : Nat} {s s' : AVal} {xs : List α} {c : List AVal} (g : Gl r h0 h s xs) (hn : r.n = n) (hc : c.length = n) (e : appR n by_ (h.new false c) s (.sl h.next 0 1 1 n true) = .val s' h') : ∃ b len cap, s' = .sl b 0 len cap n false := by
  have hpos := r.pos
  have hsrc : aSource (h.new false c) n false (.sl h.next 0 1 1 n true) = some (1, c) := by
    simp only [aSource, Heap.cells, Heap.get_new, if_true]
    rw [if_neg (by simp), if_pos (by omega)]
    simp [← hc]
  unfold appR at e
  rw [hsrc] at e
  rcases g.2 with rfl | ⟨b, off, len, cap, sz, ex, rfl, k⟩
  · simp only at e
    rw [if_neg (by omega)] at e
    split at e
    · cases e; exact ⟨_, _, _, rfl⟩
    · cases e
  · have hcap : len = cap := by rcases k with ⟨_, k⟩ | ⟨_, _, k, _⟩ <;> omega
    subst hcap
    simp only at e
    split at e
    · rw [if_neg (by omega)] at e
      split at e
      · split at e
        · cases e; exact ⟨_, _, _, rfl⟩
        · split at e
          · split at e
            · cases e; exact ⟨_, _, _, rfl⟩
            · cases e
          · cases e
      · cases e
    · cases e

section
variable {β : Type} {Q : β → Heap → Prop} {h : Heap} {call : Nat → FuncId → List AVal → Heap → Res AVal}
/-- append(s, x) to a row of one's own; what comes is a row that append told. -/
theorem Tells.app1F {α : Type} {r : Rp α} {h0 : Heap} {xs : List α} {s v : AVal} {c z : List AVal} {x : α} {n by_ : Nat} {k : Nat → AVal → AVal → Heap → Res β} (g : Gl r h0 h s xs) (wr : Wr h0 h s) (hv : v.cells = c) (hk : v.known = true) (hx : r.rep h c x) (hn : r.n = n) (hz : z.length = n) (hl : xs.length < 2 ^ 33)
    (hby : by_ ≤ 2 ^ 12) (hle : h0.next ≤ h.next) (q : ∀ s' h', Gl r h0 h' s' (xs ++ [x]) → Wr h0 h' s' → Ext s.blks h h' → (∀ S, Ext S h0 h → Ext S h0 h') → (∃ b len cap, s' = .sl b 0 len cap n false) → Tells (fun m => k m (.sl h.next 0 1 1 n true) s' h') Q) :
    Tells (fun m => arb (bslR n z 1 h [(0, n, v)]) (call m) fun a h2 => arb (appR n by_ h2 s a) (call m) (k m a)) Q := by
  subst hv
  have hc : v.cells.length = n := by rw [← hn]; exact r.len hx
  obtain ⟨s', h', q1, q2, q3, q4, q5⟩ := g.app1 (by_ := by_) hx hn hl hby hle
  have e1 := Ext.new h false v.cells
  simp only [bsl1 hz hk hc, arb_val, q1]
  exact q s' h' q2 (appR_wr q1 (wr.ext e1) (Nat.le_trans hle e1.next)) q3 q4 (app1_form g hn hc q1)
/-- A slice that is written down is a row of one's own. -/
theorem Tells.litW {α : Type} {r : Rp α} {xs : List α} {css : List (List AVal)} {n j : Nat} {z cells : List AVal} {parts : List (Nat × Nat × AVal)} {k : Nat → AVal → Heap → Res β} (hn : r.n = n) (o : All2 (r.rep h) css xs) (hk : xs.length = j) (hc : css.flatten = cells)
    (e : bslR n z j h parts = .val (.sl h.next 0 j j n true) (h.new false cells)) (q : ∀ v h1, Gl r h h1 v xs → Wr h h1 v → Ext [] h h1 → Tells (fun m => k m v h1) Q) : Tells (fun m => arb (bslR n z j h parts) (call m) (k m)) Q := by
  simp only [e, arb_val]
  have g := (Sl.lit (h0 := h) hn o hk hc).2
  refine q _ _ g (fun b hb => ?_) (Ext.new _ _ _)
  have hl := (g.1.blk b hb).2
  simp [AVal.blks] at hb
  subst hb
  refine ⟨?_, n0_le h, hl⟩
  unfold Heap.root
  rw [Heap.cls_new, Heap.cls_ge (Nat.le_refl _)]
  exact Nat.le_refl _
end
end Go.Ab

namespace Go.Proofs.Ytebkohdmoaginaa
open Go.Ab

/-- A broker, its parent, and so on up to the root (k steps at most). -/
def upN : Nat → List Int → Int → List Int
  | 0, _, b => [b]
  | k + 1, ys, b => if 0 < b then b :: upN k ys (ys[(b - 1).toNat]?.getD 0) else [b]
def upF (ys : List Int) (b : Int) : List Int := upN b.toNat ys b

theorem upN_fuel {ys : List Int} (ok : TreeOk ys) : ∀ (k : Nat) (b : Int), b ≤ k → b ≤ ys.length → upN k ys b = upN (k + 1) ys b
  | 0, b, h, _ => by simp [upN, show ¬ 0 < b by omega]
  | k + 1, b, h, hb => by
    by_cases p : 0 < b
    · have hlt : (b - 1).toNat < ys.length := by omega
      have e : ys[(b - 1).toNat]? = some ys[(b - 1).toNat] := List.getElem?_eq_getElem hlt
      have := ok _ _ e
      obtain ⟨y, hy⟩ : ∃ y, ys[(b - 1).toNat]?.getD 0 = y := ⟨_, rfl⟩
      have hy2 : 0 ≤ y ∧ y ≤ ((b - 1).toNat : Int) := by rw [← hy, e]; exact this
      have ih := upN_fuel ok k (ys[(b - 1).toNat]?.getD 0) (by rw [hy]; omega) (by rw [hy]; omega)
      unfold upN
      rw [if_pos p, if_pos p, ih]
    · simp [upN, p]
theorem upF_step {ys : List Int} (ok : TreeOk ys) {b y : Int} (hb : 0 < b) (hl : b ≤ ys.length) (hy : ys[(b - 1).toNat]? = some y) : upF ys b = b :: upF ys y := by
  have hy2 := ok _ _ hy
  have grow : ∀ (d k : Nat) (c : Int), c ≤ k → c ≤ ys.length → upN (k + d) ys c = upN k ys c := by
    intro d
    induction d with
    | zero => intro k c _ _; rfl
    | succ d ih => intro k c h1 h2; rw [← Nat.add_assoc, ← upN_fuel ok (k + d) c (by omega) h2]; exact ih k c h1 h2
  unfold upF
  obtain ⟨k, hk⟩ : ∃ k, b.toNat = k + 1 := ⟨b.toNat - 1, by omega⟩
  rw [hk]
  conv => lhs; unfold upN
  rw [if_pos hb, hy]
  simp only [Option.getD_some]
  congr 1
  have : k = y.toNat + (k - y.toNat) := by omega
  rw [this]
  exact grow _ _ _ (by omega) (by omega)

section
variable {X : XTab}
theorem tree_up (hX : OnlyKnown X) {h : Heap} {v : AVal} {ys : List Int} (o : Sl intR h v ys) (ok : TreeOk ys) (hl : ys.length ≤ 7) {b : Int} (h0 : 0 ≤ b) (hb : b ≤ ys.length) :
    Tells (fun q => acallX Try.prog X q F_tree_up [v, I b] h) fun a h' => Gl intR h h' a (upF ys b) ∧ Wr h h' a ∧ (1 < (upF ys b).length → ∃ c len cap, a = .sl c 0 len cap 1 false) ∧ Ext [] h h' := by
  refine R_tree_up _ _ (hX _ _ rfl) ?_
  refine Tells.prot fun Q' hQ => ?_
  unfold S_tree_up
  simp
  refine Tells.litW (r := intR) (xs := [b]) (css := [[I b]]) (by rfl) ⟨rfl, trivial⟩ (by rfl) (by rfl) (bsl1_int _ _ _ _) fun w h1 g1 wr1 x1 => ?_
  try simp
  refine Tells.bind (Tells.loop (fun n t g => ∃ (y : Int) (pre : List Int), t 0 = v ∧ t 1 = I y ∧ 0 ≤ y ∧ y ≤ n ∧ y ≤ ys.length ∧ pre.length + n ≤ 7 ∧ upF ys b = pre ++ upF ys y ∧ Gl intR h g (t 5) (pre ++ [y]) ∧ Wr h g (t 5) ∧ (1 < (pre ++ [y]).length → ∃ c len cap, t 5 = .sl c 0 len cap 1 false) ∧ Ext [] h g)
    (Q := fun p g => p.1 = .exit 0 ∧ Gl intR h g (p.2 5) (upF ys b) ∧ Wr h g (p.2 5) ∧ (1 < (upF ys b).length → ∃ c len cap, p.2 5 = .sl c 0 len cap 1 false) ∧ Ext [] h g) ?_ ys.length _ _ ?_) ?_
  · rintro n t g ⟨y, pre, t0, t1, y0, yn, yl, pl, hu, go, wr, fm, x⟩
    refine Tells.prot fun Q2 hQ2 => ?_
    have og := o.ext x
    unfold L_tree_up_1
    simp [t1]
    refine Tells.cb (fun hc => ?_) (fun hc => ?_)
    · simp at hc
      obtain ⟨z, hz⟩ : ∃ z, ys[(y - 1).toNat]? = some z := ⟨_, List.getElem?_eq_getElem (by omega)⟩
      have hz2 := ok _ _ hz
      have e1 : (((y - 1).toNat : Nat) : Int) = y - 1 := by omega
      obtain ⟨bb, pp, B, q1, q2, q3⟩ := og.atI hz
      rw [e1] at q1
      have w : IntKind.i64.wrap (y - 1) = y - 1 := wrap_id (by omega) (by omega)
      simp [J_tree_up_2, t0, t1, w, q1, q2, q3]
      refine Tells.app1F go wr (by rfl) (by rfl) (show intR.rep g [I z] z from rfl) (by rfl) (by rfl) (by simp; omega) (by decide) x.next fun s3 h3 g3 w3 x3 y3 f3 => ?_
      try simp
      refine Tells.ok (hQ2 _ _ (.inl ⟨rfl, n - 1, by omega, z, pre ++ [y], by simp [t0], by simp, by omega, by omega, by omega, by simp; omega, ?_, by simpa using g3, by simpa using w3, fun _ => by simpa using f3, y3 [] x⟩))
      rw [hu, upF_step ok hc yl hz]
      simp
    · simp at hc
      have hy : y = 0 := by omega
      have e : upF ys y = [y] := by subst hy; rfl
      rw [e] at hu
      exact Tells.ok (hQ2 _ _ (.inr ⟨by simp, rfl, by rw [hu]; simpa using go, by simpa using wr, fun hl => by simpa using fm (by rw [← hu]; exact hl), x⟩))
  · exact ⟨b, [], by simp, by simp, h0, hb, hb, by simpa using hl, rfl, by simpa using g1, by simpa using wr1, fun q => by simp at q, x1⟩
  · rintro ⟨ex, t⟩ g ⟨rfl, go, wr, fm, x⟩
    simp [J_tree_up_0]
    exact Tells.ok (hQ _ _ ⟨go, wr, fm, x⟩)
end
end Go.Proofs.Ytebkohdmoaginaa
