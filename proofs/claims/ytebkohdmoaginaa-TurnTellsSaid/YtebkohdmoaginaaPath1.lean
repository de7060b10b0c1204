/-
  What tree.path tells.
-/
import Derived.Test.YtebkohdmoaginaaPath0
set_option linter.unusedVariables false
set_option linter.unusedSimpArgs false
namespace Go.Proofs.Ytebkohdmoaginaa
open Go.Ab

def trim : Nat → List Int → List Int → List Int × List Int
  | 0, x, y => (x, y)
  | k + 1, x, y => if 1 < x.length ∧ 1 < y.length ∧ x[x.length - 2]? = y[y.length - 2]? then trim k x.dropLast y.dropLast else (x, y)
def pathF (ys : List Int) (a b : Int) : List Int := (trim 9 (upF ys a) (upF ys b)).1 ++ (trim 9 (upF ys a) (upF ys b)).2.dropLast.reverse

/-- A row that append takes, or that was cut at its end. -/
def Ap (h0 h : Heap) (m : Nat) (v : AVal) (xs : List Int) : Prop := Sl intR h v xs ∧ (Gro h0 h 1 v ∨ ∃ c len cap, v = .sl c 0 len cap 1 false ∧ len < cap ∧ Rm h0 h 1 v ∧ h.root c < m)

theorem cut_form {c len cap hi : Nat} (h : hi ≤ len) (h2 : len ≤ cap) : slcR 1 (.sl c 0 len cap 1 false) none (some (I hi)) none = some (.sl c 0 hi cap 1 false) := by
  have e1 : (hi : Int) ≤ (len : Int) := by omega
  have e2 : (hi : Int) ≤ (cap : Int) := by omega
  simp [slcR, aBoundO, aBound, e1, e2]

section
variable {β : Type} {Q : β → Heap → Prop} {h : Heap} {call : Nat → FuncId → List AVal → Heap → Res AVal}
theorem apOne {h0 : Heap} {m : Nat} {xs : List Int} {s : AVal} {x : Int} {k : Nat → AVal → AVal → Heap → Res β} (a : Ap h0 h m s xs) (hl : xs.length < 2 ^ 33) (hle : h0.next ≤ h.next)
    (q : ∀ s' h', Ap h0 h' m s' (xs ++ [x]) → (∀ S, Ext S h0 h → Ext S h0 h') → (∀ (u : AVal) (us : List Int), Sl intR h u us → (∀ b, b ∈ u.blks → m ≤ h.root b) → Sl intR h' u us ∧ ∀ b, b ∈ u.blks → m ≤ h'.root b) → Tells (fun m => k m (.sl h.next 0 1 1 1 true) s' h') Q) :
    Tells (fun m => arb (bslR 1 [.int .i64 0] 1 h [(0, 1, I x)]) (call m) fun a h2 => arb (appR 1 8 h2 s a) (call m) (k m a)) Q := by
  obtain ⟨o, g | ⟨c, len, cap, rfl, hlt, rm, hr⟩⟩ := a
  · refine Tells.app1 (r := intR) (h0 := h0) ⟨o, g⟩ (by rfl) (by rfl) (show intR.rep h [I x] x from rfl) (by rfl) (by rfl) hl (by decide) hle fun s' h' g' x' y' z' => ?_
    exact q s' h' ⟨g'.1, .inl g'.2⟩ y' (fun u us ou hu => ⟨ou.ext x', fun b hb => by rw [root_ext x' (ou.blk b hb).2]; exact hu b hb⟩)
  · obtain ⟨h', e, o', rm', y', hcls, ob', fr⟩ := rm.put1 (r := intR) (by_ := 8) (x := x) (c := [I x]) (fun q => q) o hlt rfl rfl
    simp only [bsl1 (n := 1) (z := [.int .i64 0]) (x := I x) rfl rfl rfl, arb_val]
    have e' : appR 1 8 (h.new false (I x).cells) (.sl c 0 len cap 1 false) (.sl h.next 0 1 1 1 true) = .val (.sl c 0 (len + 1) cap 1 false) h' := e
    rw [e']
    simp only [arb_val]
    have hc : c < h.next := (o.blk c (by simp [AVal.blks])).2
    refine q _ h' ⟨o', ?_⟩ y' fun u us ou hu => ⟨fr u us m ou hu hr, fun b hb => by rw [hcls b]; exact hu b hb⟩
    by_cases hf : len + 1 = cap
    · subst hf
      exact .inl rm'.gro
    · exact .inr ⟨c, len + 1, cap, rfl, by omega, rm', by rw [hcls c]; exact hr⟩
end

section
variable {X : XTab}

theorem trim_len : ∀ (k : Nat) (x y : List Int), (trim k x y).2.length ≤ y.length
  | 0, _, _ => Nat.le_refl _
  | k + 1, x, y => by
    simp only [trim]
    split
    · have := trim_len k x.dropLast y.dropLast
      simp at this; omega
    · exact Nat.le_refl _
theorem trim_len1 : ∀ (k : Nat) (x y : List Int), (trim k x y).1.length ≤ x.length
  | 0, _, _ => Nat.le_refl _
  | k + 1, x, y => by
    simp only [trim]
    split
    · have := trim_len1 k x.dropLast y.dropLast
      simp at this; omega
    · exact Nat.le_refl _
theorem upN_len : ∀ (k : Nat) (ys : List Int) (b : Int), 1 ≤ (upN k ys b).length ∧ (upN k ys b).length ≤ k + 1
  | 0, ys, b => by simp [upN]
  | k + 1, ys, b => by
    simp only [upN]
    split
    · have := upN_len k ys (ys[(b - 1).toNat]?.getD 0)
      simp only [List.length_cons]; omega
    · simp

theorem tree_path (hX : OnlyKnown X) {h : Heap} {v : AVal} {ys : List Int} (o : Sl intR h v ys) (ok : TreeOk ys) (hl : ys.length ≤ 7) {a b : Int} (a0 : 0 ≤ a) (al : a ≤ ys.length) (b0 : 0 ≤ b) (bl : b ≤ ys.length) :
    Tells (fun q => acallX Try.prog X q F_tree_path [v, I a, I b] h) fun r h' => Sl intR h' r (pathF ys a b) ∧ Ext [] h h' := by
  refine R_tree_path _ _ _ (hX _ _ rfl) ?_
  refine Tells.prot fun Q' hQ => ?_
  unfold S_tree_path
  simp
  refine Tells.bind (tree_up hX o ok hl a0 al) ?_
  rintro va h1 ⟨ga, wa, fa, x1⟩
  try simp
  refine Tells.bind (tree_up hX (o.ext x1) ok hl b0 bl) ?_
  rintro vb h2 ⟨gb, wb, fb, x2⟩
  have x12 := x1.trans x2
  have ga2 := ga.e x2
  have la := upN_len a.toNat ys a
  have lb := upN_len b.toNat ys b
  have hpath : pathF ys a b = (trim 9 (upF ys a) (upF ys b)).1 ++ (trim 9 (upF ys a) (upF ys b)).2.dropLast.reverse := rfl
  change 1 ≤ (upF ys a).length ∧ (upF ys a).length ≤ _ at la
  change 1 ≤ (upF ys b).length ∧ (upF ys b).length ≤ _ at lb
  generalize upF ys a = xs at *
  generalize upF ys b = zs at *
  generalize hT : trim 9 xs zs = T0 at *
  have apa : Ap h h2 h1.next va xs := ⟨ga2.1, .inl ga2.2⟩
  try simp
  refine Tells.bind (Tells.loop (fun n t g => ∃ (x z : List Int) (p q : AVal), g = h2 ∧ t 7 = p ∧ t 8 = q ∧ x.length ≤ n ∧ n ≤ 9 ∧ 1 ≤ x.length ∧ 1 ≤ z.length ∧ z.length ≤ 9 ∧ trim n x z = T0 ∧ Ap h h2 h1.next p x ∧ (1 < x.length → ∃ c len cap, p = .sl c 0 len cap 1 false ∧ x.length = len ∧ len ≤ cap) ∧ (∀ b, b ∈ p.blks → h2.root b < h1.next) ∧ Sl intR h2 q z ∧ (1 < z.length → ∃ c len cap, q = .sl c 0 len cap 1 false ∧ z.length = len ∧ len ≤ cap) ∧ ∀ b, b ∈ q.blks → h1.next ≤ h2.root b)
    (Q := fun r g => r.1 = .exit 0 ∧ g = h2 ∧ Ap h h2 h1.next (r.2 7) T0.1 ∧ Sl intR h2 (r.2 8) T0.2 ∧ 1 ≤ T0.2.length ∧ T0.2.length ≤ 9 ∧ ∀ b, b ∈ (r.2 8).blks → h1.next ≤ h2.root b) ?_ 9 _ _ ?_) ?_
  · rintro n t g ⟨x, z, p, q, rfl, t7, t8, xn, n9, x1', z1', z9, ht, ap, fx, rx, sq, fz, rz⟩
    refine Tells.prot fun Q2 hQ2 => ?_
    have stop : ∀ t2 : T, t2 7 = p → t2 8 = q → ¬ (1 < x.length ∧ 1 < z.length ∧ x[x.length - 2]? = z[z.length - 2]?) → Q2 (.exit 0, t2) g := by
      intro t2 e7 e8 hn
      have hT2 : T0 = (x, z) := by
        rw [← ht]
        obtain ⟨k, rfl⟩ : ∃ k, n = k + 1 := ⟨n - 1, by omega⟩
        simp only [trim]
        rw [if_neg hn]
      refine hQ2 _ _ (.inr ⟨by simp, rfl, rfl, ?_⟩)
      simp only [e7, e8]
      rw [hT2]
      exact ⟨ap, sq, z1', z9, rz⟩
    unfold L_tree_path_5
    have lx := ap.1.len
    have lz := sq.len
    by_cases h1 : 1 < x.length
    · have h1' : (1 : Int) < x.length := by omega
      by_cases h2 : 1 < z.length
      · have h2' : (1 : Int) < z.length := by omega
        obtain ⟨u, hu⟩ : ∃ u, x[x.length - 2]? = some u := ⟨_, List.getElem?_eq_getElem (by omega)⟩
        obtain ⟨w, hw⟩ : ∃ w, z[z.length - 2]? = some w := ⟨_, List.getElem?_eq_getElem (by omega)⟩
        obtain ⟨b1, p1, B1, q1, q2, q3⟩ := ap.1.atI hu
        obtain ⟨b2, p2, B2, k1, k2, k3⟩ := sq.atI hw
        have w1 : IntKind.i64.wrap ((x.length : Int) - 2) = ((x.length - 2 : Nat) : Int) := by rw [wrap_id (by omega) (by omega)]; omega
        have w2 : IntKind.i64.wrap ((z.length : Int) - 2) = ((z.length - 2 : Nat) : Int) := by rw [wrap_id (by omega) (by omega)]; omega
        have w3 : IntKind.i64.wrap ((x.length : Int) - 1) = ((x.length - 1 : Nat) : Int) := by rw [wrap_id (by omega) (by omega)]; omega
        have w4 : IntKind.i64.wrap ((z.length : Int) - 1) = ((z.length - 1 : Nat) : Int) := by rw [wrap_id (by omega) (by omega)]; omega
        by_cases heq : u = w
        · obtain ⟨c, len, cap, rfl, e1, e2⟩ := fx h1
          obtain ⟨c', len', cap', rfl, e1', e2'⟩ := fz h2
          have cf := cut_form (c := c) (len := len) (cap := cap) (hi := x.length - 1) (by omega) e2
          have cf' := cut_form (c := c') (len := len') (cap := cap') (hi := z.length - 1) (by omega) e2'
          obtain ⟨v1, m1, m2, _⟩ := ap.1.takeR (n := 1) rfl (hi := x.length - 1) (by omega)
          obtain ⟨v2, m1', m2', _⟩ := sq.takeR (n := 1) rfl (hi := z.length - 1) (by omega)
          have j := cf.symm.trans m1
          cases j
          have j := cf'.symm.trans m1'
          cases j
          rw [← List.dropLast_eq_take] at m2 m2'
          simp [t7, t8, lx, lz, h1', h2', w1, w2, q1, q2, q3, k1, k2, k3, heq, J_tree_path_6, w3, w4, cf, cf']
          have rm : Rm h g 1 (.sl c 0 len cap 1 false) := by
            rcases ap.2 with r | ⟨_, _, _, r, _, r2, _⟩
            · exact Rm.of r
            · exact r2
          refine Tells.ok (hQ2 _ _ (.inl ⟨rfl, n - 1, by omega, x.dropLast, z.dropLast, _, _, rfl, by simp, by simp, by simp; omega, by omega, by simp; omega, by simp; omega, by simp; omega, ?_, ⟨m2, .inr ⟨c, x.length - 1, cap, rfl, by omega, rm.cut (by omega), rx c (by simp [AVal.blks])⟩⟩, fun _ => ⟨c, x.length - 1, cap, rfl, by simp, by omega⟩, fun b hb => rx b (by simpa [AVal.blks] using hb), m2', fun _ => ⟨c', z.length - 1, cap', rfl, by simp, by omega⟩, fun b hb => rz b (by simpa [AVal.blks] using hb)⟩))
          obtain ⟨k, rfl⟩ : ∃ k, n = k + 1 := ⟨n - 1, by omega⟩
          rw [← ht]
          conv => rhs; unfold trim
          rw [if_pos ⟨h1, h2, by rw [hu, hw, heq]⟩]
          rfl
        · simp [t7, t8, lx, lz, h1', h2', w1, w2, q1, q2, q3, k1, k2, k3, beq_eq_false_iff_ne.2 heq]
          exact Tells.ok (stop _ (by simp [t7]) (by simp [t8]) (fun hh => heq (by have := hh.2.2; rw [hu, hw] at this; simpa using this)))
      · have h2' : ¬ (1 : Int) < z.length := by omega
        simp [t7, t8, lx, lz, h1', h2']
        exact Tells.ok (stop _ (by simp [t7]) (by simp [t8]) (fun hh => h2 hh.2.1))
    · have h1' : ¬ (1 : Int) < x.length := by omega
      simp [t7, t8, lx, lz, h1']
      exact Tells.ok (stop _ (by simp [t7]) (by simp [t8]) (fun hh => h1 hh.1))
  · have form : ∀ {h0 hh : Heap} {v : AVal} {xs : List Int}, Sl intR hh v xs → (1 < xs.length → ∃ c len cap, v = .sl c 0 len cap 1 false) → 1 < xs.length → ∃ c len cap, v = .sl c 0 len cap 1 false ∧ xs.length = len ∧ len ≤ cap := by
      intro h0 hh v xs o f hl
      obtain ⟨c, len, cap, rfl⟩ := f hl
      have e1 := o.len
      have e2 : lenL (.sl c 0 len cap 1 false) = some (I len) := rfl
      rw [e2] at e1
      simp at e1
      obtain ⟨css, s, _⟩ := o
      rcases s with ⟨q, _⟩ | ⟨b2, off2, cap2, sz2, ex2, B2, q, o2, o3, _⟩
      · cases q
      · cases q
        exact ⟨c, _, cap, rfl, by omega, o3⟩
    exact ⟨xs, zs, va, vb, rfl, by simp, by simp, by omega, Nat.le_refl _, la.1, lb.1, by omega, hT, apa, form (h0 := h) ga2.1 fa, fun b hb => by have := (wa b hb).2.2; have := root_le h2 b; omega, gb.1, form (h0 := h) gb.1 fb, fun b hb => (wb b hb).1⟩
  · rintro ⟨ex, t⟩ g ⟨rfl, rfl, ap, sq, l1, l9, rz⟩
    simp only at ap sq rz
    generalize hp : t 7 = p at ap
    generalize hq : t 8 = q at sq rz
    have w0 : IntKind.i64.wrap ((T0.2.length : Int) - 2) = (T0.2.length : Int) - 2 := wrap_id (by omega) (by omega)
    simp [J_tree_path_0, hq, sq.len, w0]
    refine Tells.bind (Tells.loop (fun n t g' => ∃ p : AVal, t 7 = p ∧ t 8 = q ∧ t 9 = I ((n : Int) - 1) ∧ n ≤ T0.2.length - 1 ∧ Ap h g' h1.next p (T0.1 ++ (T0.2.dropLast.drop n).reverse) ∧ Sl intR g' q T0.2 ∧ (∀ b, b ∈ q.blks → h1.next ≤ g'.root b) ∧ Ext [] h g')
      (Q := fun r g' => r.1 = .exit 2 ∧ Sl intR g' (r.2 7) (pathF ys a b) ∧ Ext [] h g') ?_ (T0.2.length - 1) _ _ ?_) ?_
    · rintro n t g' ⟨p, t7, t8, t9, nl, ap, sq, rz, x⟩
      refine Tells.prot fun Q2 hQ2 => ?_
      unfold L_tree_path_2
      by_cases hn : 0 < n
      · have hn' : (0 : Int) ≤ (n : Int) - 1 := by omega
        obtain ⟨y, hy⟩ : ∃ y, T0.2[n - 1]? = some y := ⟨_, List.getElem?_eq_getElem (by omega)⟩
        obtain ⟨b1, p1, B1, q1, q2, q3⟩ := sq.atI hy
        have e1 : ((n - 1 : Nat) : Int) = (n : Int) - 1 := by omega
        rw [e1] at q1
        have w1 : IntKind.i64.wrap ((n : Int) - 1 - 1) = (n : Int) - 1 - 1 := wrap_id (by omega) (by omega)
        have hT1 : T0.1.length ≤ 9 := by have := trim_len1 9 xs zs; rw [hT] at this; omega
        have hdl : (T0.2.dropLast.drop n).length ≤ 9 := by simp; omega
        have hd : T0.2.dropLast.drop (n - 1) = y :: T0.2.dropLast.drop n := by
          have hlt : n - 1 < T0.2.dropLast.length := by simp; omega
          rw [List.drop_eq_getElem_cons hlt, show n - 1 + 1 = n by omega]
          congr 1
          rw [List.getElem_dropLast]
          exact (List.getElem?_eq_some_iff.1 hy).2
        simp [t9, show (1 : Int) ≤ n by omega, J_tree_path_3, t7, t8, q1, q2, q3]
        refine apOne ap (by rw [List.length_append, List.length_reverse]; omega) x.next fun s3 g3 a3 y3 f3 => ?_
        obtain ⟨sq3, rz3⟩ := f3 q T0.2 sq rz
        simp [J_tree_path_4, t9, w1]
        refine Tells.ok (hQ2 _ _ (.inl ⟨rfl, n - 1, by omega, s3, by simp, by simp [t8], by simp; omega, by omega, ?_, sq3, rz3, y3 [] x⟩))
        rw [hd]
        simpa [List.append_assoc] using a3
      · have hn' : ¬ (0 : Int) ≤ (n : Int) - 1 := by omega
        have : n = 0 := by omega
        subst this
        simp [t9]
        refine Tells.ok (hQ2 _ _ (.inr ⟨by simp, rfl, ?_, x⟩))
        rw [hpath]
        simpa [t7] using ap.1
    · refine ⟨p, by simp [hp], by simp [hq], ?_, Nat.le_refl _, ?_, sq, rz, x12⟩
      · simp; omega
      · rw [List.drop_eq_nil_of_le (by simp)]
        simpa using ap
    · rintro ⟨ex, t⟩ g' ⟨rfl, sl, x⟩
      simp only at sl
      simp [J_tree_path_1]
      exact Tells.ok (hQ _ _ ⟨sl, x⟩)
end
end Go.Proofs.Ytebkohdmoaginaa
