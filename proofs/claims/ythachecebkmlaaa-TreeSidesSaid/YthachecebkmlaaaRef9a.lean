/-
  What precentorref9's up, Way, has, Dist, Next tell (they are tree's own, under other names).
-/
import Derived.Test.YthachecebkmlaaaPath4
import Derived.Test.YthachecebkmlaaaSprecentorref9
set_option linter.unusedVariables false
set_option linter.unusedSimpArgs false
namespace Go.Proofs.Ythachecebkmlaaa
open Go.Ab

section
variable {X : XTab}

theorem ref_up (hX : OnlyKnown X) {h : Heap} {v : AVal} {ys : List Int} (o : Sl intR h v ys) (ok : TreeOk ys) (hl : ys.length ≤ 7) {b : Int} (h0 : 0 ≤ b) (hb : b ≤ ys.length) :
    Tells (fun q => acallX Try.prog X q F_precentorref9_up [v, I b] h) fun a h' => Gl intR h h' a (upF ys b) ∧ Wr h h' a ∧ (1 < (upF ys b).length → ∃ c len cap, a = .sl c 0 len cap 1 false) ∧ Ext [] h h' := by
  refine R_precentorref9_up _ _ (hX _ _ rfl) ?_
  refine Tells.prot fun Q' hQ => ?_
  unfold S_precentorref9_up
  simp
  refine Tells.litW (r := intR) (xs := [b]) (css := [[I b]]) (by rfl) ⟨rfl, trivial⟩ (by rfl) (by rfl) (bsl1_int _ _ _ _) fun w h1 g1 wr1 x1 => ?_
  try simp
  refine Tells.bind (Tells.loop (fun n t g => ∃ (y : Int) (pre : List Int), t 0 = v ∧ t 1 = I y ∧ 0 ≤ y ∧ y ≤ n ∧ y ≤ ys.length ∧ pre.length + n ≤ 7 ∧ upF ys b = pre ++ upF ys y ∧ Gl intR h g (t 5) (pre ++ [y]) ∧ Wr h g (t 5) ∧ (1 < (pre ++ [y]).length → ∃ c len cap, t 5 = .sl c 0 len cap 1 false) ∧ Ext [] h g)
    (Q := fun p g => p.1 = .exit 0 ∧ Gl intR h g (p.2 5) (upF ys b) ∧ Wr h g (p.2 5) ∧ (1 < (upF ys b).length → ∃ c len cap, p.2 5 = .sl c 0 len cap 1 false) ∧ Ext [] h g) ?_ ys.length _ _ ?_) ?_
  · rintro n t g ⟨y, pre, t0, t1, y0, yn, yl, pl, hu, go, wr, fm, x⟩
    refine Tells.prot fun Q2 hQ2 => ?_
    have og := o.ext x
    unfold L_precentorref9_up_1
    simp [t1]
    refine Tells.cb (fun hc => ?_) (fun hc => ?_)
    · simp at hc
      obtain ⟨z, hz⟩ : ∃ z, ys[(y - 1).toNat]? = some z := ⟨_, List.getElem?_eq_getElem (by omega)⟩
      have hz2 := ok _ _ hz
      have e1 : (((y - 1).toNat : Nat) : Int) = y - 1 := by omega
      obtain ⟨bb, pp, B, q1, q2, q3⟩ := og.atI hz
      rw [e1] at q1
      have w : IntKind.i64.wrap (y - 1) = y - 1 := wrap_id (by omega) (by omega)
      simp [J_precentorref9_up_2, t0, t1, w, q1, q2, q3]
      refine Tells.app1F go wr (by rfl) (by rfl) (show intR.rep g [I z] z from rfl) (by rfl) (by rfl) (by simp; omega) (by decide) x.next fun s3 h3 g3 w3 x3 y3 f3 => ?_
      try simp
      refine Tells.ok (hQ2 _ _ (.inl ⟨rfl, n - 1, by omega, z, pre ++ [y], by simp [t0], by simp, by omega, by omega, by omega, by simp; omega, ?_, by simpa using g3, by simpa using w3, fun _ => by simpa using f3, y3 [] x⟩))
      rw [hu, upF_step ok hc yl hz]
      simp
    · simp at hc
      have hy : y = 0 := by omega
      have e : upF ys y = [y] := by subst hy; rfl
      rw [e] at hu
      exact Tells.ok (hQ2 _ _ (.inr ⟨by simp, rfl, by rw [hu]; simpa using go, by simpa using wr, fun hl => by simpa using fm (by rw [← hu]; exact hl), x⟩))
  · exact ⟨b, [], by simp, by simp, h0, hb, hb, by simpa using hl, rfl, by simpa using g1, by simpa using wr1, fun q => by simp at q, x1⟩
  · rintro ⟨ex, t⟩ g ⟨rfl, go, wr, fm, x⟩
    simp [J_precentorref9_up_0]
    exact Tells.ok (hQ _ _ ⟨go, wr, fm, x⟩)

theorem ref_Way (hX : OnlyKnown X) {h : Heap} {v : AVal} {ys : List Int} (o : Sl intR h v ys) (ok : TreeOk ys) (hl : ys.length ≤ 7) {a b : Int} (a0 : 0 ≤ a) (al : a ≤ ys.length) (b0 : 0 ≤ b) (bl : b ≤ ys.length) :
    Tells (fun q => acallX Try.prog X q F_precentorref9_Way [v, I a, I b] h) fun r h' => Sl intR h' r (pathF ys a b) ∧ Ext [] h h' := by
  refine R_precentorref9_Way _ _ _ (hX _ _ rfl) ?_
  refine Tells.prot fun Q' hQ => ?_
  unfold S_precentorref9_Way
  simp
  refine Tells.bind (ref_up hX o ok hl a0 al) ?_
  rintro va h1 ⟨ga, wa, fa, x1⟩
  try simp
  refine Tells.bind (ref_up hX (o.ext x1) ok hl b0 bl) ?_
  rintro vb h2 ⟨gb, wb, fb, x2⟩
  have x12 := x1.trans x2
  have ga2 := ga.e x2
  have la := upN_len a.toNat ys a
  have lb := upN_len b.toNat ys b
  have hpath : pathF ys a b = (trim 9 (upF ys a) (upF ys b)).1 ++ (trim 9 (upF ys a) (upF ys b)).2.dropLast.reverse := rfl
  change 1 ≤ (upF ys a).length ∧ (upF ys a).length ≤ _ at la
  change 1 ≤ (upF ys b).length ∧ (upF ys b).length ≤ _ at lb
  generalize upF ys a = xs at *
  generalize upF ys b = zs at *
  generalize hT : trim 9 xs zs = T0 at *
  have apa : Ap h h2 h1.next va xs := ⟨ga2.1, .inl ga2.2⟩
  try simp
  refine Tells.bind (Tells.loop (fun n t g => ∃ (x z : List Int) (p q : AVal), g = h2 ∧ t 7 = p ∧ t 8 = q ∧ x.length ≤ n ∧ n ≤ 9 ∧ 1 ≤ x.length ∧ 1 ≤ z.length ∧ z.length ≤ 9 ∧ trim n x z = T0 ∧ Ap h h2 h1.next p x ∧ (1 < x.length → ∃ c len cap, p = .sl c 0 len cap 1 false ∧ x.length = len ∧ len ≤ cap) ∧ (∀ b, b ∈ p.blks → h2.root b < h1.next) ∧ Sl intR h2 q z ∧ (1 < z.length → ∃ c len cap, q = .sl c 0 len cap 1 false ∧ z.length = len ∧ len ≤ cap) ∧ ∀ b, b ∈ q.blks → h1.next ≤ h2.root b)
    (Q := fun r g => r.1 = .exit 0 ∧ g = h2 ∧ Ap h h2 h1.next (r.2 7) T0.1 ∧ Sl intR h2 (r.2 8) T0.2 ∧ 1 ≤ T0.2.length ∧ T0.2.length ≤ 9 ∧ ∀ b, b ∈ (r.2 8).blks → h1.next ≤ h2.root b) ?_ 9 _ _ ?_) ?_
  · rintro n t g ⟨x, z, p, q, rfl, t7, t8, xn, n9, x1', z1', z9, ht, ap, fx, rx, sq, fz, rz⟩
    refine Tells.prot fun Q2 hQ2 => ?_
    have stop : ∀ t2 : T, t2 7 = p → t2 8 = q → ¬ (1 < x.length ∧ 1 < z.length ∧ x[x.length - 2]? = z[z.length - 2]?) → Q2 (.exit 0, t2) g := by
      intro t2 e7 e8 hn
      have hT2 : T0 = (x, z) := by
        rw [← ht]
        obtain ⟨k, rfl⟩ : ∃ k, n = k + 1 := ⟨n - 1, by omega⟩
        simp only [trim]
        rw [if_neg hn]
      refine hQ2 _ _ (.inr ⟨by simp, rfl, rfl, ?_⟩)
      simp only [e7, e8]
      rw [hT2]
      exact ⟨ap, sq, z1', z9, rz⟩
    unfold L_precentorref9_Way_5
    have lx := ap.1.len
    have lz := sq.len
    by_cases h1 : 1 < x.length
    · have h1' : (1 : Int) < x.length := by omega
      by_cases h2 : 1 < z.length
      · have h2' : (1 : Int) < z.length := by omega
        obtain ⟨u, hu⟩ : ∃ u, x[x.length - 2]? = some u := ⟨_, List.getElem?_eq_getElem (by omega)⟩
        obtain ⟨w, hw⟩ : ∃ w, z[z.length - 2]? = some w := ⟨_, List.getElem?_eq_getElem (by omega)⟩
        obtain ⟨b1, p1, B1, q1, q2, q3⟩ := ap.1.atI hu
        obtain ⟨b2, p2, B2, k1, k2, k3⟩ := sq.atI hw
        have w1 : IntKind.i64.wrap ((x.length : Int) - 2) = ((x.length - 2 : Nat) : Int) := by rw [wrap_id (by omega) (by omega)]; omega
        have w2 : IntKind.i64.wrap ((z.length : Int) - 2) = ((z.length - 2 : Nat) : Int) := by rw [wrap_id (by omega) (by omega)]; omega
        have w3 : IntKind.i64.wrap ((x.length : Int) - 1) = ((x.length - 1 : Nat) : Int) := by rw [wrap_id (by omega) (by omega)]; omega
        have w4 : IntKind.i64.wrap ((z.length : Int) - 1) = ((z.length - 1 : Nat) : Int) := by rw [wrap_id (by omega) (by omega)]; omega
        by_cases heq : u = w
        · obtain ⟨c, len, cap, rfl, e1, e2⟩ := fx h1
          obtain ⟨c', len', cap', rfl, e1', e2'⟩ := fz h2
          have cf := cut_form (c := c) (len := len) (cap := cap) (hi := x.length - 1) (by omega) e2
          have cf' := cut_form (c := c') (len := len') (cap := cap') (hi := z.length - 1) (by omega) e2'
          obtain ⟨v1, m1, m2, _⟩ := ap.1.takeR (n := 1) rfl (hi := x.length - 1) (by omega)
          obtain ⟨v2, m1', m2', _⟩ := sq.takeR (n := 1) rfl (hi := z.length - 1) (by omega)
          have j := cf.symm.trans m1
          cases j
          have j := cf'.symm.trans m1'
          cases j
          rw [← List.dropLast_eq_take] at m2 m2'
          simp [t7, t8, lx, lz, h1', h2', w1, w2, q1, q2, q3, k1, k2, k3, heq, J_precentorref9_Way_6, w3, w4, cf, cf']
          have rm : Rm h g 1 (.sl c 0 len cap 1 false) := by
            rcases ap.2 with r | ⟨_, _, _, r, _, r2, _⟩
            · exact Rm.of r
            · exact r2
          refine Tells.ok (hQ2 _ _ (.inl ⟨rfl, n - 1, by omega, x.dropLast, z.dropLast, _, _, rfl, by simp, by simp, by simp; omega, by omega, by simp; omega, by simp; omega, by simp; omega, ?_, ⟨m2, .inr ⟨c, x.length - 1, cap, rfl, by omega, rm.cut (by omega), rx c (by simp [AVal.blks])⟩⟩, fun _ => ⟨c, x.length - 1, cap, rfl, by simp, by omega⟩, fun b hb => rx b (by simpa [AVal.blks] using hb), m2', fun _ => ⟨c', z.length - 1, cap', rfl, by simp, by omega⟩, fun b hb => rz b (by simpa [AVal.blks] using hb)⟩))
          obtain ⟨k, rfl⟩ : ∃ k, n = k + 1 := ⟨n - 1, by omega⟩
          rw [← ht]
          conv => rhs; unfold trim
          rw [if_pos ⟨h1, h2, by rw [hu, hw, heq]⟩]
          rfl
        · simp [t7, t8, lx, lz, h1', h2', w1, w2, q1, q2, q3, k1, k2, k3, beq_eq_false_iff_ne.2 heq]
          exact Tells.ok (stop _ (by simp [t7]) (by simp [t8]) (fun hh => heq (by have := hh.2.2; rw [hu, hw] at this; simpa using this)))
      · have h2' : ¬ (1 : Int) < z.length := by omega
        simp [t7, t8, lx, lz, h1', h2']
        exact Tells.ok (stop _ (by simp [t7]) (by simp [t8]) (fun hh => h2 hh.2.1))
    · have h1' : ¬ (1 : Int) < x.length := by omega
      simp [t7, t8, lx, lz, h1']
      exact Tells.ok (stop _ (by simp [t7]) (by simp [t8]) (fun hh => h1 hh.1))
  · have form : ∀ {h0 hh : Heap} {v : AVal} {xs : List Int}, Sl intR hh v xs → (1 < xs.length → ∃ c len cap, v = .sl c 0 len cap 1 false) → 1 < xs.length → ∃ c len cap, v = .sl c 0 len cap 1 false ∧ xs.length = len ∧ len ≤ cap := by
      intro h0 hh v xs o f hl
      obtain ⟨c, len, cap, rfl⟩ := f hl
      have e1 := o.len
      have e2 : lenL (.sl c 0 len cap 1 false) = some (I len) := rfl
      rw [e2] at e1
      simp at e1
      obtain ⟨css, s, _⟩ := o
      rcases s with ⟨q, _⟩ | ⟨b2, off2, cap2, sz2, ex2, B2, q, o2, o3, _⟩
      · cases q
      · cases q
        exact ⟨c, _, cap, rfl, by omega, o3⟩
    exact ⟨xs, zs, va, vb, rfl, by simp, by simp, by omega, Nat.le_refl _, la.1, lb.1, by omega, hT, apa, form (h0 := h) ga2.1 fa, fun b hb => by have := (wa b hb).2.2; have := root_le h2 b; omega, gb.1, form (h0 := h) gb.1 fb, fun b hb => (wb b hb).1⟩
  · rintro ⟨ex, t⟩ g ⟨rfl, rfl, ap, sq, l1, l9, rz⟩
    simp only at ap sq rz
    generalize hp : t 7 = p at ap
    generalize hq : t 8 = q at sq rz
    have w0 : IntKind.i64.wrap ((T0.2.length : Int) - 2) = (T0.2.length : Int) - 2 := wrap_id (by omega) (by omega)
    simp [J_precentorref9_Way_0, hq, sq.len, w0]
    refine Tells.bind (Tells.loop (fun n t g' => ∃ p : AVal, t 7 = p ∧ t 8 = q ∧ t 9 = I ((n : Int) - 1) ∧ n ≤ T0.2.length - 1 ∧ Ap h g' h1.next p (T0.1 ++ (T0.2.dropLast.drop n).reverse) ∧ Sl intR g' q T0.2 ∧ (∀ b, b ∈ q.blks → h1.next ≤ g'.root b) ∧ Ext [] h g')
      (Q := fun r g' => r.1 = .exit 2 ∧ Sl intR g' (r.2 7) (pathF ys a b) ∧ Ext [] h g') ?_ (T0.2.length - 1) _ _ ?_) ?_
    · rintro n t g' ⟨p, t7, t8, t9, nl, ap, sq, rz, x⟩
      refine Tells.prot fun Q2 hQ2 => ?_
      unfold L_precentorref9_Way_2
      by_cases hn : 0 < n
      · have hn' : (0 : Int) ≤ (n : Int) - 1 := by omega
        obtain ⟨y, hy⟩ : ∃ y, T0.2[n - 1]? = some y := ⟨_, List.getElem?_eq_getElem (by omega)⟩
        obtain ⟨b1, p1, B1, q1, q2, q3⟩ := sq.atI hy
        have e1 : ((n - 1 : Nat) : Int) = (n : Int) - 1 := by omega
        rw [e1] at q1
        have w1 : IntKind.i64.wrap ((n : Int) - 1 - 1) = (n : Int) - 1 - 1 := wrap_id (by omega) (by omega)
        have hT1 : T0.1.length ≤ 9 := by have := trim_len1 9 xs zs; rw [hT] at this; omega
        have hdl : (T0.2.dropLast.drop n).length ≤ 9 := by simp; omega
        have hd : T0.2.dropLast.drop (n - 1) = y :: T0.2.dropLast.drop n := by
          have hlt : n - 1 < T0.2.dropLast.length := by simp; omega
          rw [List.drop_eq_getElem_cons hlt, show n - 1 + 1 = n by omega]
          congr 1
          rw [List.getElem_dropLast]
          exact (List.getElem?_eq_some_iff.1 hy).2
        simp [t9, show (1 : Int) ≤ n by omega, J_precentorref9_Way_3, t7, t8, q1, q2, q3]
        refine apOne ap (by rw [List.length_append, List.length_reverse]; omega) x.next fun s3 g3 a3 y3 f3 => ?_
        obtain ⟨sq3, rz3⟩ := f3 q T0.2 sq rz
        simp [J_precentorref9_Way_4, t9, w1]
        refine Tells.ok (hQ2 _ _ (.inl ⟨rfl, n - 1, by omega, s3, by simp, by simp [t8], by simp; omega, by omega, ?_, sq3, rz3, y3 [] x⟩))
        rw [hd]
        simpa [List.append_assoc] using a3
      · have hn' : ¬ (0 : Int) ≤ (n : Int) - 1 := by omega
        have : n = 0 := by omega
        subst this
        simp [t9]
        refine Tells.ok (hQ2 _ _ (.inr ⟨by simp, rfl, ?_, x⟩))
        rw [hpath]
        simpa [t7] using ap.1
    · refine ⟨p, by simp [hp], by simp [hq], ?_, Nat.le_refl _, ?_, sq, rz, x12⟩
      · simp; omega
      · rw [List.drop_eq_nil_of_le (by simp)]
        simpa using ap
    · rintro ⟨ex, t⟩ g' ⟨rfl, sl, x⟩
      simp only at sl
      simp [J_precentorref9_Way_1]
      exact Tells.ok (hQ _ _ ⟨sl, x⟩)

theorem ref_has (hX : OnlyKnown X) {h : Heap} {v : AVal} {ys : List Int} (o : Sl intR h v ys) (hl : ys.length < 2 ^ 62) (b : Int) :
    Tells (fun q => acallX Try.prog X q F_precentorref9_has [v, I b] h) fun r h' => r = .bool (isT ys b) ∧ h' = h := by
  refine R_precentorref9_has _ _ (hX _ _ rfl) ?_
  refine Tells.prot fun Q' hQ => ?_
  unfold S_precentorref9_has
  simp
  refine Tells.bind (RightTree hX o hl) ?_
  rintro _ h ⟨rfl, rfl⟩
  cases hr : rightT ys with
  | false =>
    simp
    exact Tells.ok (hQ _ _ ⟨by simp [isT, hr], rfl⟩)
  | true =>
    by_cases h1 : 0 ≤ b
    · simp [h1, o.len]
      exact Tells.ok (hQ _ _ ⟨by simp [isT, hr, h1], rfl⟩)
    · simp [h1]
      exact Tells.ok (hQ _ _ ⟨by simp [isT, hr, h1], rfl⟩)

theorem ref_Dist (hX : OnlyKnown X) {h : Heap} {v : AVal} {ys : List Int} (o : Sl intR h v ys) (hl : ys.length < 2 ^ 62) (a b : Int) :
    Tells (fun q => acallX Try.prog X q F_precentorref9_Dist [v, I a, I b] h) fun r h' => r = I (distF ys a b) ∧ Ext [] h h' := by
  refine R_precentorref9_Dist _ _ _ (hX _ _ rfl) ?_
  refine Tells.prot fun Q' hQ => ?_
  unfold S_precentorref9_Dist
  simp
  refine Tells.bind (ref_has hX o hl a) ?_
  rintro _ h ⟨rfl, rfl⟩
  cases ha : isT ys a with
  | false =>
    simp
    exact Tells.ok (hQ _ _ ⟨by simp [distF, ha], .refl⟩)
  | true =>
    simp
    refine Tells.bind (ref_has hX o hl b) ?_
    rintro _ h ⟨rfl, rfl⟩
    cases hb : isT ys b with
    | false =>
      simp
      exact Tells.ok (hQ _ _ ⟨by simp [distF, hb], .refl⟩)
    | true =>
      obtain ⟨k1, k2, k3, k4⟩ := isT_ok ha
      obtain ⟨_, _, k5, k6⟩ := isT_ok hb
      simp [J_precentorref9_Dist_0]
      refine Tells.bind (ref_Way hX o k1 k2 k3 k4 k5 k6) ?_
      rintro p h1 ⟨sp, x1⟩
      have pl := pathF_len ys a b
      have w : IntKind.i64.wrap (((pathF ys a b).length : Int) - 1) = ((pathF ys a b).length : Int) - 1 := wrap_id (by omega) (by omega)
      simp [sp.len, w]
      exact Tells.ok (hQ _ _ ⟨by simp [distF, ha, hb], x1⟩)

theorem ref_Next (hX : OnlyKnown X) {h : Heap} {v : AVal} {ys : List Int} (o : Sl intR h v ys) (hl : ys.length < 2 ^ 62) (a b : Int) :
    Tells (fun q => acallX Try.prog X q F_precentorref9_Next [v, I a, I b] h) fun r h' => r = I (nextF ys a b) ∧ Ext [] h h' := by
  refine R_precentorref9_Next _ _ _ (hX _ _ rfl) ?_
  refine Tells.prot fun Q' hQ => ?_
  unfold S_precentorref9_Next
  simp
  refine Tells.bind (ref_has hX o hl a) ?_
  rintro _ h ⟨rfl, rfl⟩
  cases ha : isT ys a with
  | false =>
    simp
    exact Tells.ok (hQ _ _ ⟨by simp [nextF, ha], .refl⟩)
  | true =>
    simp
    refine Tells.bind (ref_has hX o hl b) ?_
    rintro _ h ⟨rfl, rfl⟩
    cases hb : isT ys b with
    | false =>
      simp
      exact Tells.ok (hQ _ _ ⟨by simp [nextF, hb], .refl⟩)
    | true =>
      obtain ⟨k1, k2, k3, k4⟩ := isT_ok ha
      obtain ⟨_, _, k5, k6⟩ := isT_ok hb
      by_cases hab : a = b
      · simp [hab]
        exact Tells.ok (hQ _ _ ⟨by simp [nextF, hab], .refl⟩)
      · simp [beq_eq_false_iff_ne.2 hab, J_precentorref9_Next_0]
        refine Tells.bind (ref_Way hX o k1 k2 k3 k4 k5 k6) ?_
        rintro p h1 ⟨sp, x1⟩
        obtain ⟨u, t, hp⟩ := path_ne k1 k2 k3 k4 k5 k6 hab
        obtain ⟨bb, pp, B, q1, q2, q3⟩ := sp.atI (i := 1) (x := u) (by rw [hp]; rfl)
        simp at q1
        simp [q1, q2, q3]
        exact Tells.ok (hQ _ _ ⟨by simp [nextF, ha, hb, hab, hp], x1⟩)

end
end Go.Proofs.Ythachecebkmlaaa
