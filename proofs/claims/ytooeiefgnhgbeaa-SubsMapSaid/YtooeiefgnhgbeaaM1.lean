/-
  Texts of a claim, merged: SamL, WordC, RigL, RigM, RigS, HandG, FeedX.
-/
import Derived.Test.YtooeiefgnhgbeaaM0
import Derived.Test.YtooeiefgnhgbeaaSfilter
import Derived.Test.YtooeiefgnhgbeaaSsubs
import Derived.Test.YtooeiefgnhgbeaaSpred
import Derived.Test.YtooeiefgnhgbeaaOps
import Derived.Test.YtooeiefgnhgbeaaSattr
import Derived.Test.YtooeiefgnhgbeaaSprecentorref1
import Derived.Test.YtooeiefgnhgbeaaSprecentorref9
import Derived.Test.YtooeiefgnhgbeaaWrE
import Derived.Test.YtooeiefgnhgbeaaCls
set_option linter.unusedVariables false
set_option linter.unusedSimpArgs false
/-! Tests, filters, subscriptions compared (printed by mksam.py). -/
namespace Go.Proofs.Ytooeiefgnhgbeaa
open Go.Ab

def sameL {α : Type} (f : α → α → Bool) : List α → List α → Bool
  | [], [] => true
  | x :: l, y :: m => f x y && sameL f l m
  | [], _ :: _ => false
  | _ :: _, [] => false
theorem sameL_len {α : Type} {f : α → α → Bool} : ∀ {l m : List α}, l.length ≠ m.length → sameL f l m = false
  | [], [], h => absurd rfl h
  | x :: l, y :: m, h => by simp [sameL, sameL_len (f := f) (l := l) (m := m) (by simpa using h)]
  | [], _ :: _, _ => rfl
  | _ :: _, [], _ => rfl
theorem sameL_self {α : Type} {f : α → α → Bool} (h : ∀ x, f x x = true) : ∀ l : List α, sameL f l l = true
  | [] => rfl
  | x :: l => by simp [sameL, h x, sameL_self h l]
theorem sameL_drop {α : Type} {f : α → α → Bool} {l m : List α} {i : Nat} {x y : α} (h1 : l[i]? = some x) (h2 : m[i]? = some y) : sameL f (l.drop i) (m.drop i) = (f x y && sameL f (l.drop (i + 1)) (m.drop (i + 1))) := by
  have e1 : l.drop i = x :: l.drop (i + 1) := by rw [List.drop_eq_getElem_cons (List.getElem?_eq_some_iff.1 h1).1, (List.getElem?_eq_some_iff.1 h1).2]
  have e2 : m.drop i = y :: m.drop (i + 1) := by rw [List.drop_eq_getElem_cons (List.getElem?_eq_some_iff.1 h2).1, (List.getElem?_eq_some_iff.1 h2).2]
  rw [e1, e2]
  rfl
def samePr (p q : Prd) : Bool := p.name.toList == q.name.toList && (p.test == q.test && (sameV p.v q.v && (sameV p.w q.w && sameL sameV p.set q.set)))
theorem samePr_self (p : Prd) : samePr p p = true := by simp [samePr, sameV_self, sameL_self sameV_self]
def sameSx (s t : Sx) : Bool := s.c == t.c && (s.b == t.b && (s.n == t.n && sameL samePr s.fl t.fl))
theorem sameSx_self (s : Sx) : sameSx s s = true := by simp [sameSx, sameL_self samePr_self]

section
variable {X : XTab}

theorem ref_SameV (hX : OnlyKnown X) {h : Heap} {c d : List AVal} {x y : Vl} (r : vlR.rep h c x) (s : vlR.rep h d y) (_ : True) (_ : True) : Tells (fun q => acallX Try.prog X q F_precentorref1_SameValue [.agg c, .agg d] h) fun r h' => r = .bool (sameV x y) ∧ Ext [] h h' := by
  rw [show c = vlC x from r, show d = vlC y from s]
  exact ref_SameValue hX x y h
theorem ref_sameValues (hX : OnlyKnown X) {h : Heap} {a b : AVal} {l m : List Vl} (o : Sl vlR h a l) (p : Sl vlR h b m) (hl : l.length ≤ 1000) (sz : ∀ x, x ∈ l → True) (sz2 : ∀ x, x ∈ m → True) :
    Tells (fun q => acallX Try.prog X q F_precentorref1_sameValues [a, b] h) fun r h' => r = .bool (sameL sameV l m) ∧ Ext [] h h' := by
  refine R_precentorref1_sameValues _ _ (hX _ _ rfl) ?_
  refine Tells.prot fun Q' hQ => ?_
  unfold S_precentorref1_sameValues
  by_cases hlm : l.length = m.length
  · simp [o.len, p.len, hlm, J_precentorref1_sameValues_0]
    refine Tells.bind (Tells.loop (fun k t g => ∃ i : Nat, t 0 = a ∧ t 1 = b ∧ t 5 = I i ∧ i + k = l.length ∧ sameL sameV l m = sameL sameV (l.drop i) (m.drop i) ∧ Ext [] h g)
      (Q := fun r g => ((r.1 = .exit 0 ∧ sameL sameV l m = true) ∨ (r.1 = .ret ∧ r.2 4 = .bool false ∧ sameL sameV l m = false)) ∧ Ext [] h g) ?_ l.length _ _ ⟨0, by simp, by simp, by simp, by omega, by simp, .refl⟩) ?_
    · rintro k t g ⟨i, t0, t1, ti, hi, hs, xg⟩
      refine Tells.prot fun Q2 hQ2 => ?_
      unfold L_precentorref1_sameValues_2
      have og := o.ext xg
      have pg := p.ext xg
      simp [t0, ti, og.len]
      refine Tells.cb (fun hc => ?_) (fun hc => ?_)
      · simp at hc
        have hc1 : i < l.length := by omega
        obtain ⟨x, hx⟩ : ∃ x, l[i]? = some x := ⟨_, List.getElem?_eq_getElem hc1⟩
        obtain ⟨y, hy⟩ : ∃ y, m[i]? = some y := ⟨_, List.getElem?_eq_getElem (by omega)⟩
        obtain ⟨b1, p1, B1, c1, q1, q2, q3⟩ := og.at (n := 5) rfl (i := (i : Int)) (by omega) (by simpa using hx)
        obtain ⟨b2, p2, B2, c2, r1, r2, r3⟩ := pg.at (n := 5) rfl (i := (i : Int)) (by omega) (by simpa using hy)
        have w : IntKind.i64.wrap ((i : Int) + 1) = i + 1 := wrap_id (by omega) (by omega)
        have q4 := q2.lda (n := 5) ((vlR).len q3)
        have r4 := r2.lda (n := 5) ((vlR).len r3)
        have e := sameL_drop (f := sameV) hx hy
        simp [J_precentorref1_sameValues_3, t0, t1, ti, q1, q4, r1, r4]
        refine Tells.cbE (ref_SameV hX q3 r3 (sz x (List.mem_of_getElem? hx)) (sz2 y (List.mem_of_getElem? hy))) ?_
        rintro _ g1 ⟨rfl, x1⟩
        cases hf : sameV x y with
        | false =>
          try simp
          exact Tells.ok (hQ2 _ _ (.inr ⟨by simp, .inr ⟨rfl, by simp, by rw [hs, e, hf]; rfl⟩, xg.trans x1⟩))
        | true =>
          simp [J_precentorref1_sameValues_4, ti, w]
          exact Tells.ok (hQ2 _ _ (.inl ⟨rfl, k - 1, by omega, i + 1, by simp [t0], by simp [t1], by simp, by omega, by rw [hs, e, hf]; rfl, xg.trans x1⟩))
      · simp at hc
        refine Tells.ok (hQ2 _ _ (.inr ⟨by simp, .inl ⟨rfl, ?_⟩, xg⟩))
        rw [hs, List.drop_eq_nil_of_le (by omega), List.drop_eq_nil_of_le (by omega)]
        rfl
    · rintro ⟨ex, t⟩ g ⟨⟨rfl, he⟩ | ⟨rfl, t4, he⟩, xg⟩
      · simp [J_precentorref1_sameValues_1]
        exact Tells.ok (hQ _ _ ⟨by rw [he], xg⟩)
      · have t4 : t 4 = .bool false := t4
        simp [t4]
        exact Tells.ok (hQ _ _ ⟨by rw [he], xg⟩)
  · have hn : ((l.length : Int) != (m.length : Int)) = true := by simp; omega
    simp [o.len, p.len, hn]
    exact Tells.ok (hQ _ _ ⟨by rw [sameL_len hlm], .refl⟩)

/-- Not too large. -/
def SzP (p : Prd) : Prop := p.set.length ≤ 1000
def SzX (s : Sx) : Prop := s.fl.length ≤ 1000 ∧ ∀ p, p ∈ s.fl → SzP p
theorem ref_SamePred (hX : OnlyKnown X) {h : Heap} {c d : List AVal} {x y : Prd} (r : prR.rep h c x) (s : prR.rep h d y) (z1 : SzP x) (z2 : SzP y) : Tells (fun q => acallX Try.prog X q F_precentorref1_SamePred [.agg c, .agg d] h) fun r h' => r = .bool (samePr x y) ∧ Ext [] h h' := by
  obtain ⟨sv, rfl, os, _⟩ := r
  obtain ⟨sw, rfl, ow, _⟩ := s
  refine R_precentorref1_SamePred _ _ (hX _ _ rfl) ?_
  refine Tells.prot fun Q' hQ => ?_
  unfold S_precentorref1_SamePred
  simp [prC, vlC]
  refine Tells.box rfl rfl fun h1 ba o1 x1 l1 => ?_
  have o1 : Ob h1 ba (prC x sv) := o1
  try simp
  refine Tells.box rfl rfl fun h2 bb o2 x2 l2 => ?_
  have o2 : Ob h2 bb (prC y sw) := o2
  have o12 := o1.e x2
  have X2 := x1.trans x2
  cases e1 : (x.name.toList == y.name.toList) with
  | false =>
    simp [o12.1, o2.1, prC, vlC, e1]
    exact Tells.ok (hQ _ _ ⟨by simp [samePr, e1], X2⟩)
  | true =>
    cases e2 : (x.test == y.test) with
    | false =>
      simp [o12.1, o2.1, prC, vlC, e1, e2]
      exact Tells.ok (hQ _ _ ⟨by simp [samePr, e1, e2], X2⟩)
    | true =>
      simp [o12.1, o2.1, prC, vlC, e1, e2]
      refine Tells.bind (ref_SameValue hX x.v y.v h2) ?_
      rintro _ h3 ⟨rfl, x3⟩
      have o13 := o12.e x3
      have o23 := o2.e x3
      have X3 := X2.trans x3
      cases e3 : sameV x.v y.v with
      | false =>
        try simp
        exact Tells.ok (hQ _ _ ⟨by simp [samePr, e1, e2, e3], X3⟩)
      | true =>
        simp [o13.1, o23.1, prC, vlC]
        refine Tells.bind (ref_SameValue hX x.w y.w h3) ?_
        rintro _ h4 ⟨rfl, x4⟩
        have o14 := o13.e x4
        have o24 := o23.e x4
        have X4 := X3.trans x4
        cases e4 : sameV x.w y.w with
        | false =>
          try simp
          exact Tells.ok (hQ _ _ ⟨by simp [samePr, e1, e2, e3, e4], X4⟩)
        | true =>
          simp [o14.1, o24.1, prC, vlC]
          refine Tells.bind (ref_sameValues hX (os.ext X4) (ow.ext X4) z1 (fun _ _ => trivial) (fun _ _ => trivial)) ?_
          rintro _ h5 ⟨rfl, x5⟩
          try simp
          exact Tells.ok (hQ _ _ ⟨by simp [samePr, e1, e2, e3, e4], X4.trans x5⟩)
theorem ref_SameFilter (hX : OnlyKnown X) {h : Heap} {a b : AVal} {l m : List Prd} (o : Sl prR h a l) (p : Sl prR h b m) (hl : l.length ≤ 1000) (sz : ∀ x, x ∈ l → SzP x) (sz2 : ∀ x, x ∈ m → SzP x) :
    Tells (fun q => acallX Try.prog X q F_precentorref1_SameFilter [a, b] h) fun r h' => r = .bool (sameL samePr l m) ∧ Ext [] h h' := by
  refine R_precentorref1_SameFilter _ _ (hX _ _ rfl) ?_
  refine Tells.prot fun Q' hQ => ?_
  unfold S_precentorref1_SameFilter
  by_cases hlm : l.length = m.length
  · simp [o.len, p.len, hlm, J_precentorref1_SameFilter_0]
    refine Tells.bind (Tells.loop (fun k t g => ∃ i : Nat, t 0 = a ∧ t 1 = b ∧ t 5 = I i ∧ i + k = l.length ∧ sameL samePr l m = sameL samePr (l.drop i) (m.drop i) ∧ Ext [] h g)
      (Q := fun r g => ((r.1 = .exit 0 ∧ sameL samePr l m = true) ∨ (r.1 = .ret ∧ r.2 4 = .bool false ∧ sameL samePr l m = false)) ∧ Ext [] h g) ?_ l.length _ _ ⟨0, by simp, by simp, by simp, by omega, by simp, .refl⟩) ?_
    · rintro k t g ⟨i, t0, t1, ti, hi, hs, xg⟩
      refine Tells.prot fun Q2 hQ2 => ?_
      unfold L_precentorref1_SameFilter_2
      have og := o.ext xg
      have pg := p.ext xg
      simp [t0, ti, og.len]
      refine Tells.cb (fun hc => ?_) (fun hc => ?_)
      · simp at hc
        have hc1 : i < l.length := by omega
        obtain ⟨x, hx⟩ : ∃ x, l[i]? = some x := ⟨_, List.getElem?_eq_getElem hc1⟩
        obtain ⟨y, hy⟩ : ∃ y, m[i]? = some y := ⟨_, List.getElem?_eq_getElem (by omega)⟩
        obtain ⟨b1, p1, B1, c1, q1, q2, q3⟩ := og.at (n := 13) rfl (i := (i : Int)) (by omega) (by simpa using hx)
        obtain ⟨b2, p2, B2, c2, r1, r2, r3⟩ := pg.at (n := 13) rfl (i := (i : Int)) (by omega) (by simpa using hy)
        have w : IntKind.i64.wrap ((i : Int) + 1) = i + 1 := wrap_id (by omega) (by omega)
        have q4 := q2.lda (n := 13) ((prR).len q3)
        have r4 := r2.lda (n := 13) ((prR).len r3)
        have e := sameL_drop (f := samePr) hx hy
        simp [J_precentorref1_SameFilter_3, t0, t1, ti, q1, q4, r1, r4]
        refine Tells.cbE (ref_SamePred hX q3 r3 (sz x (List.mem_of_getElem? hx)) (sz2 y (List.mem_of_getElem? hy))) ?_
        rintro _ g1 ⟨rfl, x1⟩
        cases hf : samePr x y with
        | false =>
          try simp
          exact Tells.ok (hQ2 _ _ (.inr ⟨by simp, .inr ⟨rfl, by simp, by rw [hs, e, hf]; rfl⟩, xg.trans x1⟩))
        | true =>
          simp [J_precentorref1_SameFilter_4, ti, w]
          exact Tells.ok (hQ2 _ _ (.inl ⟨rfl, k - 1, by omega, i + 1, by simp [t0], by simp [t1], by simp, by omega, by rw [hs, e, hf]; rfl, xg.trans x1⟩))
      · simp at hc
        refine Tells.ok (hQ2 _ _ (.inr ⟨by simp, .inl ⟨rfl, ?_⟩, xg⟩))
        rw [hs, List.drop_eq_nil_of_le (by omega), List.drop_eq_nil_of_le (by omega)]
        rfl
    · rintro ⟨ex, t⟩ g ⟨⟨rfl, he⟩ | ⟨rfl, t4, he⟩, xg⟩
      · simp [J_precentorref1_SameFilter_1]
        exact Tells.ok (hQ _ _ ⟨by rw [he], xg⟩)
      · have t4 : t 4 = .bool false := t4
        simp [t4]
        exact Tells.ok (hQ _ _ ⟨by rw [he], xg⟩)
  · have hn : ((l.length : Int) != (m.length : Int)) = true := by simp; omega
    simp [o.len, p.len, hn]
    exact Tells.ok (hQ _ _ ⟨by rw [sameL_len hlm], .refl⟩)

theorem ref_SameSub (hX : OnlyKnown X) {h : Heap} {c d : List AVal} {x y : Sx} (r : sxR.rep h c x) (s : sxR.rep h d y) (z1 : SzX x) (z2 : SzX y) : Tells (fun q => acallX Try.prog X q F_precentorref1_SameSub [.agg c, .agg d] h) fun r h' => r = .bool (sameSx x y) ∧ Ext [] h h' := by
  obtain ⟨sv, rfl, os, _⟩ := r
  obtain ⟨sw, rfl, ow, _⟩ := s
  refine R_precentorref1_SameSub _ _ (hX _ _ rfl) ?_
  refine Tells.prot fun Q' hQ => ?_
  unfold S_precentorref1_SameSub
  simp [sxC]
  refine Tells.box rfl rfl fun h1 ba o1 x1 l1 => ?_
  have o1 : Ob h1 ba (sxC x sv) := o1
  try simp
  refine Tells.box rfl rfl fun h2 bb o2 x2 l2 => ?_
  have o2 : Ob h2 bb (sxC y sw) := o2
  have o12 := o1.e x2
  have X2 := x1.trans x2
  cases e1 : (x.c == y.c) with
  | false =>
    simp [o12.1, o2.1, sxC, e1]
    exact Tells.ok (hQ _ _ ⟨by simp [sameSx, e1], X2⟩)
  | true =>
    cases e2 : (x.b == y.b) with
    | false =>
      simp [o12.1, o2.1, sxC, e1, e2]
      exact Tells.ok (hQ _ _ ⟨by simp [sameSx, e1, e2], X2⟩)
    | true =>
      cases e3 : (x.n == y.n) with
      | false =>
        simp [o12.1, o2.1, sxC, e1, e2, e3]
        exact Tells.ok (hQ _ _ ⟨by simp [sameSx, e1, e2, e3], X2⟩)
      | true =>
        simp [o12.1, o2.1, sxC, e1, e2, e3]
        refine Tells.bind (ref_SameFilter hX (os.ext X2) (ow.ext X2) z1.1 z1.2 z2.2) ?_
        rintro _ h5 ⟨rfl, x5⟩
        try simp
        exact Tells.ok (hQ _ _ ⟨by simp [sameSx, e1, e2, e3], X2.trans x5⟩)
theorem ref_SameSubs (hX : OnlyKnown X) {h : Heap} {a b : AVal} {l m : List Sx} (o : Sl sxR h a l) (p : Sl sxR h b m) (hl : l.length ≤ 1000) (sz : ∀ x, x ∈ l → SzX x) (sz2 : ∀ x, x ∈ m → SzX x) :
    Tells (fun q => acallX Try.prog X q F_precentorref1_SameSubs [a, b] h) fun r h' => r = .bool (sameL sameSx l m) ∧ Ext [] h h' := by
  refine R_precentorref1_SameSubs _ _ (hX _ _ rfl) ?_
  refine Tells.prot fun Q' hQ => ?_
  unfold S_precentorref1_SameSubs
  by_cases hlm : l.length = m.length
  · simp [o.len, p.len, hlm, J_precentorref1_SameSubs_0]
    refine Tells.bind (Tells.loop (fun k t g => ∃ i : Nat, t 0 = a ∧ t 1 = b ∧ t 5 = I i ∧ i + k = l.length ∧ sameL sameSx l m = sameL sameSx (l.drop i) (m.drop i) ∧ Ext [] h g)
      (Q := fun r g => ((r.1 = .exit 0 ∧ sameL sameSx l m = true) ∨ (r.1 = .ret ∧ r.2 4 = .bool false ∧ sameL sameSx l m = false)) ∧ Ext [] h g) ?_ l.length _ _ ⟨0, by simp, by simp, by simp, by omega, by simp, .refl⟩) ?_
    · rintro k t g ⟨i, t0, t1, ti, hi, hs, xg⟩
      refine Tells.prot fun Q2 hQ2 => ?_
      unfold L_precentorref1_SameSubs_2
      have og := o.ext xg
      have pg := p.ext xg
      simp [t0, ti, og.len]
      refine Tells.cb (fun hc => ?_) (fun hc => ?_)
      · simp at hc
        have hc1 : i < l.length := by omega
        obtain ⟨x, hx⟩ : ∃ x, l[i]? = some x := ⟨_, List.getElem?_eq_getElem hc1⟩
        obtain ⟨y, hy⟩ : ∃ y, m[i]? = some y := ⟨_, List.getElem?_eq_getElem (by omega)⟩
        obtain ⟨b1, p1, B1, c1, q1, q2, q3⟩ := og.at (n := 4) rfl (i := (i : Int)) (by omega) (by simpa using hx)
        obtain ⟨b2, p2, B2, c2, r1, r2, r3⟩ := pg.at (n := 4) rfl (i := (i : Int)) (by omega) (by simpa using hy)
        have w : IntKind.i64.wrap ((i : Int) + 1) = i + 1 := wrap_id (by omega) (by omega)
        have q4 := q2.lda (n := 4) ((sxR).len q3)
        have r4 := r2.lda (n := 4) ((sxR).len r3)
        have e := sameL_drop (f := sameSx) hx hy
        simp [J_precentorref1_SameSubs_3, t0, t1, ti, q1, q4, r1, r4]
        refine Tells.cbE (ref_SameSub hX q3 r3 (sz x (List.mem_of_getElem? hx)) (sz2 y (List.mem_of_getElem? hy))) ?_
        rintro _ g1 ⟨rfl, x1⟩
        cases hf : sameSx x y with
        | false =>
          try simp
          exact Tells.ok (hQ2 _ _ (.inr ⟨by simp, .inr ⟨rfl, by simp, by rw [hs, e, hf]; rfl⟩, xg.trans x1⟩))
        | true =>
          simp [J_precentorref1_SameSubs_4, ti, w]
          exact Tells.ok (hQ2 _ _ (.inl ⟨rfl, k - 1, by omega, i + 1, by simp [t0], by simp [t1], by simp, by omega, by rw [hs, e, hf]; rfl, xg.trans x1⟩))
      · simp at hc
        refine Tells.ok (hQ2 _ _ (.inr ⟨by simp, .inl ⟨rfl, ?_⟩, xg⟩))
        rw [hs, List.drop_eq_nil_of_le (by omega), List.drop_eq_nil_of_le (by omega)]
        rfl
    · rintro ⟨ex, t⟩ g ⟨⟨rfl, he⟩ | ⟨rfl, t4, he⟩, xg⟩
      · simp [J_precentorref1_SameSubs_1]
        exact Tells.ok (hQ _ _ ⟨by rw [he], xg⟩)
      · have t4 : t 4 = .bool false := t4
        simp [t4]
        exact Tells.ok (hQ _ _ ⟨by rw [he], xg⟩)
  · have hn : ((l.length : Int) != (m.length : Int)) = true := by simp; omega
    simp [o.len, p.len, hn]
    exact Tells.ok (hQ _ _ ⟨by rw [sameL_len hlm], .refl⟩)

theorem pred_Same (hX : OnlyKnown X) {h : Heap} {c d : List AVal} {x y : Prd} (r : prR.rep h c x) (s : prR.rep h d y) (z1 : SzP x) (z2 : SzP y) : Tells (fun q => acallX Try.prog X q F_pred_Same [.agg c, .agg d] h) fun r h' => r = .bool (samePr x y) ∧ Ext [] h h' := by
  obtain ⟨sv, rfl, os, _⟩ := r
  obtain ⟨sw, rfl, ow, _⟩ := s
  refine R_pred_Same _ _ (hX _ _ rfl) ?_
  refine Tells.prot fun Q' hQ => ?_
  unfold S_pred_Same
  simp [prC, vlC]
  refine Tells.box rfl rfl fun h1 ba o1 x1 l1 => ?_
  have o1 : Ob h1 ba (prC x sv) := o1
  try simp
  refine Tells.box rfl rfl fun h2 bb o2 x2 l2 => ?_
  have o2 : Ob h2 bb (prC y sw) := o2
  have o12 := o1.e x2
  have X2 := x1.trans x2
  cases e1 : (x.name.toList == y.name.toList) with
  | false =>
    simp [o12.1, o2.1, prC, vlC, e1]
    exact Tells.ok (hQ _ _ ⟨by simp [samePr, e1], X2⟩)
  | true =>
    cases e2 : (x.test == y.test) with
    | false =>
      have e2' : (x.test != y.test) = true := by simp [bne, e2]
      simp [o12.1, o2.1, prC, vlC, e1, e2']
      exact Tells.ok (hQ _ _ ⟨by simp [samePr, e1, e2], X2⟩)
    | true =>
      have e2' : (x.test != y.test) = false := by simp [bne, e2]
      simp [o12.1, o2.1, prC, vlC, e1, e2']
      refine Tells.bind (value_Same hX x.v y.v h2) ?_
      rintro _ h3 ⟨rfl, x3⟩
      have o13 := o12.e x3
      have o23 := o2.e x3
      have X3 := X2.trans x3
      cases e3 : sameV x.v y.v with
      | false =>
        try simp
        exact Tells.ok (hQ _ _ ⟨by simp [samePr, e1, e2, e3], X3⟩)
      | true =>
        simp [o13.1, o23.1, prC, vlC]
        refine Tells.bind (value_Same hX x.w y.w h3) ?_
        rintro _ h4 ⟨rfl, x4⟩
        have o14 := o13.e x4
        have o24 := o23.e x4
        have X4 := X3.trans x4
        have os4 := os.ext X4
        have ow4 := ow.ext X4
        cases e4 : sameV x.w y.w with
        | false =>
          try simp
          exact Tells.ok (hQ _ _ ⟨by simp [samePr, e1, e2, e3, e4], X4⟩)
        | true =>
          by_cases e5 : x.set.length = y.set.length
          · simp [o14.1, o24.1, prC, vlC, os4.len, ow4.len, e5, J_pred_Same_0]
            refine Tells.bind (Tells.loop (fun k t g => ∃ i : Nat, t 2 = .ptr ba 0 ∧ t 3 = .ptr bb 0 ∧ t 45 = I y.set.length ∧ t 46 = I i ∧ i + k = x.set.length ∧ sameL sameV x.set y.set = sameL sameV (x.set.drop i) (y.set.drop i) ∧ Ext [] h4 g)
              (Q := fun r g => ((r.1 = .exit 0 ∧ sameL sameV x.set y.set = true) ∨ (r.1 = .ret ∧ r.2 4 = .bool false ∧ sameL sameV x.set y.set = false)) ∧ Ext [] h4 g) ?_ x.set.length _ _ ⟨0, by simp, by simp, by simp, by simp, by omega, by simp, .refl⟩) ?_
            · rintro k t g ⟨i, t2, t3, t45, t46, hi, hs, xg⟩
              refine Tells.prot fun Q2 hQ2 => ?_
              unfold L_pred_Same_2
              have og := os4.ext xg
              have pg := ow4.ext xg
              have oa := o14.e xg
              have ob := o24.e xg
              have zz : x.set.length ≤ 1000 := z1
              simp [t45, t46]
              refine Tells.cb (fun hc => ?_) (fun hc => ?_)
              · simp at hc
                have hc1 : i < x.set.length := by omega
                obtain ⟨u, hu⟩ : ∃ u, x.set[i]? = some u := ⟨_, List.getElem?_eq_getElem hc1⟩
                obtain ⟨v, hv⟩ : ∃ v, y.set[i]? = some v := ⟨_, List.getElem?_eq_getElem (by omega)⟩
                obtain ⟨b1, p1, B1, c1, q1, q2, q3⟩ := og.at (n := 5) rfl (i := (i : Int)) (by omega) (by simpa using hu)
                obtain ⟨b2, p2, B2, c2, r1, r2, r3⟩ := pg.at (n := 5) rfl (i := (i : Int)) (by omega) (by simpa using hv)
                have w : IntKind.i64.wrap ((i : Int) + 1) = i + 1 := wrap_id (by omega) (by omega)
                have q3 : c1 = vlC u := q3
                have r3 : c2 = vlC v := r3
                subst q3
                subst r3
                have q4 := q2.lda (n := 5) rfl
                have r4 := r2.lda (n := 5) rfl
                have e := sameL_drop (f := sameV) hu hv
                simp [J_pred_Same_3, t2, t3, t46, oa.1, ob.1, prC, vlC, q1, r1]
                simp [vlC] at q4 r4
                try simp [q4, r4]
                refine Tells.cbE (value_Same hX u v g) ?_
                rintro _ g1 ⟨rfl, x1⟩
                cases hf : sameV u v with
                | false =>
                  try simp
                  exact Tells.ok (hQ2 _ _ (.inr ⟨by simp, .inr ⟨rfl, by simp, by rw [hs, e, hf]; rfl⟩, xg.trans x1⟩))
                | true =>
                  simp [J_pred_Same_4, t46, w]
                  exact Tells.ok (hQ2 _ _ (.inl ⟨rfl, k - 1, by omega, i + 1, by simp [t2], by simp [t3], by simp [t45], by simp, by omega, by rw [hs, e, hf]; rfl, xg.trans x1⟩))
              · simp at hc
                refine Tells.ok (hQ2 _ _ (.inr ⟨by simp, .inl ⟨rfl, ?_⟩, xg⟩))
                rw [hs, List.drop_eq_nil_of_le (by omega), List.drop_eq_nil_of_le (by omega)]
                rfl
            · rintro ⟨ex, t⟩ g ⟨⟨rfl, he⟩ | ⟨rfl, t4, he⟩, xg⟩
              · simp [J_pred_Same_1]
                exact Tells.ok (hQ _ _ ⟨by simp [samePr, e1, e2, e3, e4, he], X4.trans xg⟩)
              · have t4 : t 4 = .bool false := t4
                simp [t4]
                exact Tells.ok (hQ _ _ ⟨by simp [samePr, e1, e2, e3, e4, he], X4.trans xg⟩)
          · have hn : ((x.set.length : Int) != (y.set.length : Int)) = true := by simp; omega
            simp [o14.1, o24.1, prC, vlC, os4.len, ow4.len, hn]
            exact Tells.ok (hQ _ _ ⟨by simp [samePr, e1, e2, e3, e4, sameL_len (f := sameV) e5], X4⟩)
theorem filter_Same (hX : OnlyKnown X) {h : Heap} {a b : AVal} {l m : List Prd} (o : Sl prR h a l) (p : Sl prR h b m) (hl : l.length ≤ 1000) (sz : ∀ x, x ∈ l → SzP x) (sz2 : ∀ x, x ∈ m → SzP x) :
    Tells (fun q => acallX Try.prog X q F_filter_Same [a, b] h) fun r h' => r = .bool (sameL samePr l m) ∧ Ext [] h h' := by
  refine R_filter_Same _ _ (hX _ _ rfl) ?_
  refine Tells.prot fun Q' hQ => ?_
  unfold S_filter_Same
  by_cases hlm : l.length = m.length
  · simp [o.len, p.len, hlm, J_filter_Same_0]
    refine Tells.bind (Tells.loop (fun k t g => ∃ i : Nat, t 0 = a ∧ t 1 = b ∧ t 12 = I m.length ∧ t 13 = I i ∧ i + k = l.length ∧ sameL samePr l m = sameL samePr (l.drop i) (m.drop i) ∧ Ext [] h g)
      (Q := fun r g => ((r.1 = .exit 0 ∧ sameL samePr l m = true) ∨ (r.1 = .ret ∧ r.2 4 = .bool false ∧ sameL samePr l m = false)) ∧ Ext [] h g) ?_ l.length _ _ ⟨0, by simp, by simp, by simp, by simp, by omega, by simp, .refl⟩) ?_
    · rintro k t g ⟨i, t0, t1, tl, ti, hi, hs, xg⟩
      refine Tells.prot fun Q2 hQ2 => ?_
      unfold L_filter_Same_2
      have og := o.ext xg
      have pg := p.ext xg
      simp [t0, tl, ti, og.len]
      refine Tells.cb (fun hc => ?_) (fun hc => ?_)
      · simp at hc
        have hc1 : i < l.length := by omega
        obtain ⟨x, hx⟩ : ∃ x, l[i]? = some x := ⟨_, List.getElem?_eq_getElem hc1⟩
        obtain ⟨y, hy⟩ : ∃ y, m[i]? = some y := ⟨_, List.getElem?_eq_getElem (by omega)⟩
        obtain ⟨b1, p1, B1, c1, q1, q2, q3⟩ := og.at (n := 13) rfl (i := (i : Int)) (by omega) (by simpa using hx)
        obtain ⟨b2, p2, B2, c2, r1, r2, r3⟩ := pg.at (n := 13) rfl (i := (i : Int)) (by omega) (by simpa using hy)
        have w : IntKind.i64.wrap ((i : Int) + 1) = i + 1 := wrap_id (by omega) (by omega)
        have q4 := q2.lda (n := 13) ((prR).len q3)
        have r4 := r2.lda (n := 13) ((prR).len r3)
        have e := sameL_drop (f := samePr) hx hy
        simp [J_filter_Same_3, t0, t1, ti, q1, q4, r1, r4]
        refine Tells.cbE (pred_Same hX q3 r3 (sz x (List.mem_of_getElem? hx)) (sz2 y (List.mem_of_getElem? hy))) ?_
        rintro _ g1 ⟨rfl, x1⟩
        cases hf : samePr x y with
        | false =>
          try simp
          exact Tells.ok (hQ2 _ _ (.inr ⟨by simp, .inr ⟨rfl, by simp, by rw [hs, e, hf]; rfl⟩, xg.trans x1⟩))
        | true =>
          simp [J_filter_Same_4, ti, w]
          exact Tells.ok (hQ2 _ _ (.inl ⟨rfl, k - 1, by omega, i + 1, by simp [t0], by simp [t1], by simp [tl], by simp, by omega, by rw [hs, e, hf]; rfl, xg.trans x1⟩))
      · simp at hc
        refine Tells.ok (hQ2 _ _ (.inr ⟨by simp, .inl ⟨rfl, ?_⟩, xg⟩))
        rw [hs, List.drop_eq_nil_of_le (by omega), List.drop_eq_nil_of_le (by omega)]
        rfl
    · rintro ⟨ex, t⟩ g ⟨⟨rfl, he⟩ | ⟨rfl, t4, he⟩, xg⟩
      · simp [J_filter_Same_1]
        exact Tells.ok (hQ _ _ ⟨by rw [he], xg⟩)
      · have t4 : t 4 = .bool false := t4
        simp [t4]
        exact Tells.ok (hQ _ _ ⟨by rw [he], xg⟩)
  · have hn : ((l.length : Int) != (m.length : Int)) = true := by simp; omega
    simp [o.len, p.len, hn]
    exact Tells.ok (hQ _ _ ⟨by rw [sameL_len hlm], .refl⟩)

end
end Go.Proofs.Ytooeiefgnhgbeaa

/-! What Word tells. -/
namespace Go.Proofs.Ytooeiefgnhgbeaa
open Go.Ab

section
variable {X : XTab}

def letterB (b : UInt8) : Bool := !(decide ((b.toNat : Int) < 97) || decide (122 < (b.toNat : Int)))

def wordB (s : ByteArray) : Bool := s.data.toList.all letterB && (decide (1 ≤ s.size) && decide (s.size ≤ 6))

theorem attr_Word (hX : OnlyKnown X) (s : ByteArray) (hs : s.size < 2 ^ 63) (h : Heap) : Tells (fun q => acallX Try.prog X q F_attr_Word [.str s] h) fun r h' => r = .bool (wordB s) ∧ h' = h := by
  refine R_attr_Word _ (hX _ _ rfl) ?_
  refine Tells.prot fun Q' hQ => ?_
  have hsz : s.data.toList.length = s.size := rfl
  unfold S_attr_Word
  try simp
  refine Tells.bind (Tells.loop (fun n t g => ∃ i : Nat, t 0 = .str s ∧ t 3 = I i ∧ i + n = s.size ∧ g = h ∧ s.data.toList.all letterB = (s.data.toList.drop i).all letterB)
    (Q := fun p g => g = h ∧ ((p.1 = .exit 0 ∧ p.2 0 = .str s ∧ s.data.toList.all letterB = true) ∨ (p.1 = .ret ∧ p.2 2 = .bool false ∧ s.data.toList.all letterB = false))) ?_ s.size _ _ ?_) ?_
  · rintro n t g ⟨i, t0, t3, hi, rfl, ha⟩
    refine Tells.prot fun Q2 hQ2 => ?_
    unfold L_attr_Word_1
    simp [t0, t3, lenS]
    refine Tells.cb (fun hc => ?_) (fun hc => ?_)
    · simp at hc
      have w : IntKind.i64.wrap ((i : Int) + 1) = i + 1 := wrap_id (by omega) (by omega)
      have hlt : i < s.data.toList.length := by omega
      obtain ⟨b, hb⟩ : ∃ b, s.data.toList[i]? = some b := ⟨_, List.getElem?_eq_getElem hlt⟩
      have hd : s.data.toList.drop i = b :: s.data.toList.drop (i + 1) := by rw [List.drop_eq_getElem_cons hlt, (List.getElem?_eq_some_iff.1 hb).2]
      have ix : ixtR (.str s) (I i) = some (.int .u8 b.toNat) := by
        simp only [ixtR]
        rw [if_pos (by omega)]
        simp only [Int.toNat_natCast, hb]
      rw [hd, List.all_cons] at ha
      by_cases c1 : (b.toNat : Int) < 97
      · simp [J_attr_Word_2, t0, t3, ix, c1]
        exact Tells.ok (hQ2 _ _ (.inr ⟨by simp, rfl, .inr ⟨rfl, by simp, by rw [ha]; simp [letterB, c1]⟩⟩))
      · by_cases c2 : 122 < (b.toNat : Int)
        · simp [J_attr_Word_2, t0, t3, ix, c1, c2]
          exact Tells.ok (hQ2 _ _ (.inr ⟨by simp, rfl, .inr ⟨rfl, by simp, by rw [ha]; simp [letterB, c1, c2]⟩⟩))
        · simp [J_attr_Word_2, t0, t3, ix, c1, c2, J_attr_Word_3, w]
          exact Tells.ok (hQ2 _ _ (.inl ⟨rfl, n - 1, by omega, i + 1, by simp [t0], by simp, by omega, rfl, by rw [ha]; simp [letterB, c1, c2]⟩))
    · simp at hc
      exact Tells.ok (hQ2 _ _ (.inr ⟨by simp, rfl, .inl ⟨rfl, by simp [t0], by rw [ha, List.drop_eq_nil_of_le (by omega)]; rfl⟩⟩))
  · exact ⟨0, by simp, by simp, by omega, rfl, rfl⟩
  · rintro ⟨ex, t⟩ g ⟨rfl, ⟨rfl, t0, ha⟩ | ⟨rfl, t2, ha⟩⟩
    · simp only at t0
      by_cases c1 : 1 ≤ (s.size : Int)
      · simp [J_attr_Word_0, t0, lenS, c1]
        exact Tells.ok (hQ _ _ ⟨by rw [wordB, ha]; simp [show 1 ≤ s.size by omega]; omega, rfl⟩)
      · have : s.size = 0 := by omega
        simp [J_attr_Word_0, t0, lenS, this]
        exact Tells.ok (hQ _ _ ⟨by rw [wordB, ha]; simp [this], rfl⟩)
    · simp only at t2
      simp [t2]
      exact Tells.ok (hQ _ _ ⟨by rw [wordB, ha]; rfl, rfl⟩)

theorem ref_Word (hX : OnlyKnown X) (s : ByteArray) (hs : s.size < 2 ^ 63) (h : Heap) : Tells (fun q => acallX Try.prog X q F_precentorref1_Word [.str s] h) fun r h' => r = .bool (wordB s) ∧ h' = h := by
  refine R_precentorref1_Word _ (hX _ _ rfl) ?_
  refine Tells.prot fun Q' hQ => ?_
  have hsz : s.data.toList.length = s.size := rfl
  unfold S_precentorref1_Word
  try simp
  refine Tells.bind (Tells.loop (fun n t g => ∃ i : Nat, t 0 = .str s ∧ t 3 = I i ∧ i + n = s.size ∧ g = h ∧ s.data.toList.all letterB = (s.data.toList.drop i).all letterB)
    (Q := fun p g => g = h ∧ ((p.1 = .exit 0 ∧ p.2 0 = .str s ∧ s.data.toList.all letterB = true) ∨ (p.1 = .ret ∧ p.2 2 = .bool false ∧ s.data.toList.all letterB = false))) ?_ s.size _ _ ?_) ?_
  · rintro n t g ⟨i, t0, t3, hi, rfl, ha⟩
    refine Tells.prot fun Q2 hQ2 => ?_
    unfold L_precentorref1_Word_1
    simp [t0, t3, lenS]
    refine Tells.cb (fun hc => ?_) (fun hc => ?_)
    · simp at hc
      have w : IntKind.i64.wrap ((i : Int) + 1) = i + 1 := wrap_id (by omega) (by omega)
      have hlt : i < s.data.toList.length := by omega
      obtain ⟨b, hb⟩ : ∃ b, s.data.toList[i]? = some b := ⟨_, List.getElem?_eq_getElem hlt⟩
      have hd : s.data.toList.drop i = b :: s.data.toList.drop (i + 1) := by rw [List.drop_eq_getElem_cons hlt, (List.getElem?_eq_some_iff.1 hb).2]
      have ix : ixtR (.str s) (I i) = some (.int .u8 b.toNat) := by
        simp only [ixtR]
        rw [if_pos (by omega)]
        simp only [Int.toNat_natCast, hb]
      rw [hd, List.all_cons] at ha
      by_cases c1 : (b.toNat : Int) < 97
      · simp [J_precentorref1_Word_2, t0, t3, ix, c1]
        exact Tells.ok (hQ2 _ _ (.inr ⟨by simp, rfl, .inr ⟨rfl, by simp, by rw [ha]; simp [letterB, c1]⟩⟩))
      · by_cases c2 : 122 < (b.toNat : Int)
        · simp [J_precentorref1_Word_2, t0, t3, ix, c1, c2]
          exact Tells.ok (hQ2 _ _ (.inr ⟨by simp, rfl, .inr ⟨rfl, by simp, by rw [ha]; simp [letterB, c1, c2]⟩⟩))
        · simp [J_precentorref1_Word_2, t0, t3, ix, c1, c2, J_precentorref1_Word_3, w]
          exact Tells.ok (hQ2 _ _ (.inl ⟨rfl, n - 1, by omega, i + 1, by simp [t0], by simp, by omega, rfl, by rw [ha]; simp [letterB, c1, c2]⟩))
    · simp at hc
      exact Tells.ok (hQ2 _ _ (.inr ⟨by simp, rfl, .inl ⟨rfl, by simp [t0], by rw [ha, List.drop_eq_nil_of_le (by omega)]; rfl⟩⟩))
  · exact ⟨0, by simp, by simp, by omega, rfl, rfl⟩
  · rintro ⟨ex, t⟩ g ⟨rfl, ⟨rfl, t0, ha⟩ | ⟨rfl, t2, ha⟩⟩
    · simp only at t0
      by_cases c1 : 1 ≤ (s.size : Int)
      · simp [J_precentorref1_Word_0, t0, lenS, c1]
        exact Tells.ok (hQ _ _ ⟨by rw [wordB, ha]; simp [show 1 ≤ s.size by omega]; omega, rfl⟩)
      · have : s.size = 0 := by omega
        simp [J_precentorref1_Word_0, t0, lenS, this]
        exact Tells.ok (hQ _ _ ⟨by rw [wordB, ha]; simp [this], rfl⟩)
    · simp only at t2
      simp [t2]
      exact Tells.ok (hQ _ _ ⟨by rw [wordB, ha]; rfl, rfl⟩)

end
end Go.Proofs.Ytooeiefgnhgbeaa

/-! Tests and filters that are right (printed by mkrig.py). -/
namespace Go.Proofs.Ytooeiefgnhgbeaa
open Go.Ab

def zeroB (v : Vl) : Bool := sameV v vl0
def rightP (p : Prd) : Bool := wordB p.name && (if p.test = 1 then zeroB p.v && (zeroB p.w && decide (p.set.length = 0)) else if 2 ≤ p.test ∧ p.test ≤ 7 then rightV p.v && (zeroB p.w && decide (p.set.length = 0))
  else if p.test = 8 then rightV p.v && (rightV p.w && decide (p.set.length = 0)) else if p.test = 9 then rightV p.v && (p.v.k == 3 && (zeroB p.w && decide (p.set.length = 0)))
  else if p.test = 10 then zeroB p.v && (zeroB p.w && (decide (1 ≤ p.set.length) && (decide (p.set.length ≤ 4) && p.set.all rightV))) else false)
/-- Behind a name (none: .none), tests that may be. -/
def rightFs : Option ByteArray → List Prd → Bool
  | _, [] => true
  | q, p :: r => (rightP p && (match q with | some n => (Op.bytesLess n.toList p.name.toList || n.toList == p.name.toList) | none => true)) && rightFs (some p.name) r
def rightFl (fl : List Prd) : Bool := decide (fl.length ≤ 3) && rightFs none fl
def prevP (l : List Prd) (i : Nat) : Option ByteArray := if i = 0 then none else (l[i - 1]?).map (·.name)
theorem prevP_succ {l : List Prd} {i : Nat} {p : Prd} (h : l[i]? = some p) : prevP l (i + 1) = some p.name := by simp [prevP, h]
theorem rightFs_drop {l : List Prd} {i : Nat} {p : Prd} (h : l[i]? = some p) : rightFs (prevP l i) (l.drop i) = ((rightP p && (match prevP l i with | some n => (Op.bytesLess n.toList p.name.toList || n.toList == p.name.toList) | none => true)) && rightFs (prevP l (i + 1)) (l.drop (i + 1))) := by
  rw [prevP_succ h, List.drop_eq_getElem_cons (List.getElem?_eq_some_iff.1 h).1, (List.getElem?_eq_some_iff.1 h).2]
  rfl
/-- Small enough for all of this. -/
def SzN (p : Prd) : Prop := p.set.length ≤ 1000 ∧ p.name.size < 2 ^ 63

section
variable {X : XTab}

theorem pred_zero (hX : OnlyKnown X) (v : Vl) (h : Heap) : Tells (fun q => acallX Try.prog X q F_pred_zero [.agg (vlC v)] h) fun r h' => r = .bool (zeroB v) ∧ Ext [] h h' := by
  refine R_pred_zero _ (hX _ _ rfl) ?_
  refine Tells.prot fun Q' hQ => ?_
  unfold S_pred_zero
  simp [vlC]
  refine Tells.box rfl rfl fun h1 b o1 x1 l1 => ?_
  have o1 : Ob h1 b (vlC v) := o1
  simp [o1.1, vlC, bldR, fillR, splice]
  refine Tells.bind (value_Same hX v vl0 h1) ?_
  rintro _ h2 ⟨rfl, x2⟩
  try simp
  exact Tells.ok (hQ _ _ ⟨rfl, x1.trans x2⟩)

theorem ref_zero (hX : OnlyKnown X) (v : Vl) (h : Heap) : Tells (fun q => acallX Try.prog X q F_precentorref1_zero [.agg (vlC v)] h) fun r h' => r = .bool (zeroB v) ∧ Ext [] h h' := by
  refine R_precentorref1_zero _ (hX _ _ rfl) ?_
  refine Tells.prot fun Q' hQ => ?_
  unfold S_precentorref1_zero
  simp [vlC]
  refine Tells.box rfl rfl fun h1 b o1 x1 l1 => ?_
  have o1 : Ob h1 b (vlC v) := o1
  simp [o1.1, vlC, bldR, fillR, splice]
  refine Tells.bind (ref_SameValue hX v vl0 h1) ?_
  rintro _ h2 ⟨rfl, x2⟩
  try simp
  exact Tells.ok (hQ _ _ ⟨rfl, x1.trans x2⟩)

theorem pred_values (hX : OnlyKnown X) {h : Heap} {a : AVal} {l : List Vl} (o : Sl vlR h a l) (hl : l.length ≤ 1000) : Tells (fun q => acallX Try.prog X q F_pred_values [a] h) fun r h' => r = .bool (l.all rightV) ∧ Ext [] h h' := by
  refine R_pred_values _ (hX _ _ rfl) ?_
  refine Tells.prot fun Q' hQ => ?_
  unfold S_pred_values
  simp [o.len]
  refine Tells.bind (Tells.loop (fun k t g => ∃ i : Nat, t 5 = a ∧ t 6 = I l.length ∧ t 7 = I i ∧ i + k = l.length ∧ l.all rightV = (l.drop i).all rightV ∧ Ext [] h g)
    (Q := fun r g => ((r.1 = .exit 0 ∧ l.all rightV = true) ∨ (r.1 = .ret ∧ r.2 2 = .bool false ∧ l.all rightV = false)) ∧ Ext [] h g) ?_ l.length _ _ ⟨0, by simp, by simp, by simp, by omega, by simp, .refl⟩) ?_
  · rintro k t g ⟨i, t5, t6, t7, hi, hs, xg⟩
    refine Tells.prot fun Q2 hQ2 => ?_
    unfold L_pred_values_1
    have og := o.ext xg
    simp [t6, t7]
    refine Tells.cb (fun hc => ?_) (fun hc => ?_)
    · simp at hc
      obtain ⟨x, hx⟩ : ∃ x, l[i]? = some x := ⟨_, List.getElem?_eq_getElem hc⟩
      obtain ⟨b1, p1, B1, c1, q1, q2, q3⟩ := og.at (n := 5) rfl (i := (i : Int)) (by omega) (by simpa using hx)
      have q3 : c1 = vlC x := q3
      subst q3
      have w : IntKind.i64.wrap ((i : Int) + 1) = i + 1 := wrap_id (by omega) (by omega)
      have q4 := q2.lda (n := 5) rfl
      have e : (l.drop i).all rightV = (rightV x && (l.drop (i + 1)).all rightV) := by rw [List.drop_eq_getElem_cons hc, (List.getElem?_eq_some_iff.1 hx).2, List.all_cons]
      simp [J_pred_values_2, t5, t7, q1, q4]
      refine Tells.newSt (ds := vlC x) (by rfl) (by rfl) (by rfl) (by rfl) fun g1 bp op x1 l1 => ?_
      simp [op.1, vlC]
      refine Tells.bind (value_RightG hX x g1) ?_
      rintro _ g2 ⟨rfl, x2⟩
      cases hf : rightV x with
      | false =>
        try simp
        exact Tells.ok (hQ2 _ _ (.inr ⟨by simp, .inr ⟨rfl, by simp, by rw [hs, e, hf]; rfl⟩, (xg.trans x1).trans x2⟩))
      | true =>
        simp [J_pred_values_3, t7, w]
        exact Tells.ok (hQ2 _ _ (.inl ⟨rfl, k - 1, by omega, i + 1, by simp [t5], by simp [t6], by simp, by omega, by rw [hs, e, hf]; rfl, (xg.trans x1).trans x2⟩))
    · simp at hc
      refine Tells.ok (hQ2 _ _ (.inr ⟨by simp, .inl ⟨rfl, ?_⟩, xg⟩))
      rw [hs, List.drop_eq_nil_of_le (by omega)]
      rfl
  · rintro ⟨ex, t⟩ g ⟨⟨rfl, he⟩ | ⟨rfl, t2, he⟩, xg⟩
    · simp [J_pred_values_0]
      exact Tells.ok (hQ _ _ ⟨by rw [he], xg⟩)
    · have t2 : t 2 = .bool false := t2
      simp [t2]
      exact Tells.ok (hQ _ _ ⟨by rw [he], xg⟩)

theorem pred_Right (hX : OnlyKnown X) {h : Heap} {c : List AVal} {x : Prd} (r : prR.rep h c x) (z1 : SzN x) : Tells (fun q => acallX Try.prog X q F_pred_Right [.agg c] h) fun r h' => r = .bool (rightP x) ∧ Ext [] h h' := by
  obtain ⟨sv, rfl, os, _⟩ := r
  refine R_pred_Right _ (hX _ _ rfl) ?_
  refine Tells.prot fun Q' hQ => ?_
  unfold S_pred_Right
  simp [prC, vlC]
  refine Tells.box rfl rfl fun h1 bp o1 x1 l1 => ?_
  have o1 : Ob h1 bp (prC x sv) := o1
  have os1 := os.ext x1
  simp [o1.1, prC, vlC]
  refine Tells.bind (attr_Word hX x.name z1.2 h1) ?_
  rintro _ h2 ⟨rfl, rfl⟩
  cases ew : wordB x.name with
  | false =>
    try simp
    exact Tells.ok (hQ _ _ ⟨by simp [rightP, ew], x1⟩)
  | true =>
    -- two values, and no set
    have l0 : ((x.set.length : Int) == 0) = decide (x.set.length = 0) := by
      by_cases q : x.set.length = 0
      · rw [q]; rfl
      · rw [beq_eq_false_iff_ne.2 (by omega)]; simp [q]
    have tail : ∀ (t : T), t 1 = .ptr bp 0 → t 8 = I x.test → t 25 = .bool (decide (2 ≤ x.test ∧ x.test ≤ 7)) → x.test ≠ 1 →
        Tells (fun m => J_pred_Right_2 Try.prog (acallX Try.prog X m) m (blkK 0 (sqK (J_pred_Right_1 Try.prog (acallX Try.prog X m) m (retK Try.prog [.tmp 2])) (retK Try.prog [.tmp 2]))) t h2) Q' := by
      intro t t1 tk tf n1
      by_cases c1 : 2 ≤ x.test ∧ x.test ≤ 7
      · have eP : rightP x = (rightV x.v && (zeroB x.w && decide (x.set.length = 0))) := by simp [rightP, ew, n1, c1]
        simp [J_pred_Right_2, tf, c1, t1, o1.1, prC, vlC]
        refine Tells.bind (value_RightG hX x.v h2) ?_
        rintro _ h3 ⟨rfl, x3⟩
        have o3 := o1.e x3
        cases e1 : rightV x.v with
        | false =>
          try simp
          exact Tells.ok (hQ _ _ ⟨by simp [eP, e1], x1.trans x3⟩)
        | true =>
          simp [t1, o3.1, prC, vlC]
          refine Tells.bind (pred_zero hX x.w h3) ?_
          rintro _ h4 ⟨rfl, x4⟩
          have o4 := o3.e x4
          cases e2 : zeroB x.w with
          | false =>
            try simp
            exact Tells.ok (hQ _ _ ⟨by simp [eP, e1, e2], (x1.trans x3).trans x4⟩)
          | true =>
            simp [t1, o4.1, prC, vlC, ((os1.ext x3).ext x4).len, l0]
            exact Tells.ok (hQ _ _ ⟨by simp [eP, e1, e2], (x1.trans x3).trans x4⟩)
      · by_cases c2 : x.test = 8
        · have eP : rightP x = (rightV x.v && (rightV x.w && decide (x.set.length = 0))) := by simp [rightP, ew, c2]
          simp [J_pred_Right_2, tf, tk, c1, c2, t1, o1.1, prC, vlC]
          refine Tells.bind (value_RightG hX x.v h2) ?_
          rintro _ h3 ⟨rfl, x3⟩
          have o3 := o1.e x3
          cases e1 : rightV x.v with
          | false =>
            try simp
            exact Tells.ok (hQ _ _ ⟨by simp [eP, e1], x1.trans x3⟩)
          | true =>
            simp [t1, o3.1, prC, vlC]
            refine Tells.bind (value_RightG hX x.w h3) ?_
            rintro _ h4 ⟨rfl, x4⟩
            have o4 := o3.e x4
            cases e2 : rightV x.w with
            | false =>
              try simp
              exact Tells.ok (hQ _ _ ⟨by simp [eP, e1, e2], (x1.trans x3).trans x4⟩)
            | true =>
              simp [t1, o4.1, prC, vlC, ((os1.ext x3).ext x4).len, l0]
              exact Tells.ok (hQ _ _ ⟨by simp [eP, e1, e2], (x1.trans x3).trans x4⟩)
        · have b2 : (x.test == 8) = false := beq_eq_false_iff_ne.2 c2
          by_cases c3 : x.test = 9
          · have eP : rightP x = (rightV x.v && (x.v.k == 3 && (zeroB x.w && decide (x.set.length = 0)))) := by simp [rightP, ew, c3]
            simp [J_pred_Right_2, tf, tk, c1, c3, t1, o1.1, prC, vlC]
            refine Tells.bind (value_RightG hX x.v h2) ?_
            rintro _ h3 ⟨rfl, x3⟩
            have o3 := o1.e x3
            cases e1 : rightV x.v with
            | false =>
              try simp
              exact Tells.ok (hQ _ _ ⟨by simp [eP, e1], x1.trans x3⟩)
            | true =>
              cases e3 : (x.v.k == 3) with
              | false =>
                simp [t1, o3.1, prC, vlC, e3]
                exact Tells.ok (hQ _ _ ⟨by simp [eP, e1, e3], x1.trans x3⟩)
              | true =>
                simp [t1, o3.1, prC, vlC, e3]
                refine Tells.bind (pred_zero hX x.w h3) ?_
                rintro _ h4 ⟨rfl, x4⟩
                have o4 := o3.e x4
                cases e2 : zeroB x.w with
                | false =>
                  try simp
                  exact Tells.ok (hQ _ _ ⟨by simp [eP, e1, e2, e3], (x1.trans x3).trans x4⟩)
                | true =>
                  simp [t1, o4.1, prC, vlC, ((os1.ext x3).ext x4).len, l0]
                  exact Tells.ok (hQ _ _ ⟨by simp [eP, e1, e2, e3], (x1.trans x3).trans x4⟩)
          · have b3 : (x.test == 9) = false := beq_eq_false_iff_ne.2 c3
            by_cases c4 : x.test = 10
            · have eP : rightP x = (zeroB x.v && (zeroB x.w && (decide (1 ≤ x.set.length) && (decide (x.set.length ≤ 4) && x.set.all rightV)))) := by simp [rightP, ew, c4]
              simp [J_pred_Right_2, tf, tk, c1, c4, t1, o1.1, prC, vlC]
              refine Tells.bind (pred_zero hX x.v h2) ?_
              rintro _ h3 ⟨rfl, x3⟩
              have o3 := o1.e x3
              cases e1 : zeroB x.v with
              | false =>
                try simp
                exact Tells.ok (hQ _ _ ⟨by simp [eP, e1], x1.trans x3⟩)
              | true =>
                simp [t1, o3.1, prC, vlC]
                refine Tells.bind (pred_zero hX x.w h3) ?_
                rintro _ h4 ⟨rfl, x4⟩
                have o4 := o3.e x4
                have os4 := (os1.ext x3).ext x4
                have X4 := (x1.trans x3).trans x4
                cases e2 : zeroB x.w with
                | false =>
                  try simp
                  exact Tells.ok (hQ _ _ ⟨by simp [eP, e1, e2], X4⟩)
                | true =>
                  by_cases s1 : 1 ≤ x.set.length
                  · have s1' : (1 : Int) ≤ x.set.length := by omega
                    by_cases s2 : x.set.length ≤ 4
                    · have s2' : (x.set.length : Int) ≤ 4 := by omega
                      simp [t1, o4.1, prC, vlC, os4.len, s1, s1', s2, s2']
                      refine Tells.bind (pred_values hX os4 z1.1) ?_
                      rintro _ h5 ⟨rfl, x5⟩
                      try simp
                      exact Tells.ok (hQ _ _ ⟨by simp [eP, e1, e2, s1, s2], X4.trans x5⟩)
                    · have s2' : ¬ (x.set.length : Int) ≤ 4 := by omega
                      simp [t1, o4.1, prC, vlC, os4.len, s1, s1', s2, s2']
                      exact Tells.ok (hQ _ _ ⟨by simp [eP, e1, e2, s1, s2], X4⟩)
                  · have s1' : ¬ (1 : Int) ≤ x.set.length := by omega
                    simp [t1, o4.1, prC, vlC, os4.len, s1, s1']
                    exact Tells.ok (hQ _ _ ⟨by simp [eP, e1, e2, s1], X4⟩)
            · have b4 : (x.test == 10) = false := beq_eq_false_iff_ne.2 c4
              have eP : rightP x = false := by simp [rightP, ew, n1, c1, c2, c3, c4]
              simp [J_pred_Right_2, tf, tk, c1, b2, b3, b4, J_pred_Right_1]
              exact Tells.ok (hQ _ _ ⟨by simp [eP], x1⟩)
    by_cases c1 : x.test = 1
    · have eP : rightP x = (zeroB x.v && (zeroB x.w && decide (x.set.length = 0))) := by simp [rightP, ew, c1]
      simp [J_pred_Right_0, o1.1, prC, vlC, c1]
      refine Tells.bind (pred_zero hX x.v h2) ?_
      rintro _ h3 ⟨rfl, x3⟩
      have o3 := o1.e x3
      cases e1 : zeroB x.v with
      | false =>
        try simp
        exact Tells.ok (hQ _ _ ⟨by simp [eP, e1], x1.trans x3⟩)
      | true =>
        simp [o3.1, prC, vlC]
        refine Tells.bind (pred_zero hX x.w h3) ?_
        rintro _ h4 ⟨rfl, x4⟩
        have o4 := o3.e x4
        cases e2 : zeroB x.w with
        | false =>
          try simp
          exact Tells.ok (hQ _ _ ⟨by simp [eP, e1, e2], (x1.trans x3).trans x4⟩)
        | true =>
          simp [o4.1, prC, vlC, ((os1.ext x3).ext x4).len, l0]
          exact Tells.ok (hQ _ _ ⟨by simp [eP, e1, e2], (x1.trans x3).trans x4⟩)
    · have b1 : (x.test == 1) = false := beq_eq_false_iff_ne.2 c1
      simp [J_pred_Right_0, o1.1, prC, vlC, b1]
      by_cases d2 : x.test = 2
      · simp [d2]
        exact tail _ (by simp) (by simp [d2]) (by simp [d2]) c1
      · have k2 : (x.test == 2) = false := beq_eq_false_iff_ne.2 d2
        by_cases d3 : x.test = 3
        · simp [k2, d3]
          exact tail _ (by simp) (by simp [d3]) (by simp [d3]) c1
        · have k3 : (x.test == 3) = false := beq_eq_false_iff_ne.2 d3
          by_cases d4 : x.test = 4
          · simp [k2, k3, d4]
            exact tail _ (by simp) (by simp [d4]) (by simp [d4]) c1
          · have k4 : (x.test == 4) = false := beq_eq_false_iff_ne.2 d4
            by_cases d5 : x.test = 5
            · simp [k2, k3, k4, d5]
              exact tail _ (by simp) (by simp [d5]) (by simp [d5]) c1
            · have k5 : (x.test == 5) = false := beq_eq_false_iff_ne.2 d5
              by_cases d6 : x.test = 6
              · simp [k2, k3, k4, k5, d6]
                exact tail _ (by simp) (by simp [d6]) (by simp [d6]) c1
              · have k6 : (x.test == 6) = false := beq_eq_false_iff_ne.2 d6
                have k7 : (x.test == 7) = decide (2 ≤ x.test ∧ x.test ≤ 7) := by
                  by_cases q : x.test = 7
                  · rw [q]; decide
                  · rw [beq_eq_false_iff_ne.2 q]
                    have : ¬ (2 ≤ x.test ∧ x.test ≤ 7) := by omega
                    simp [this]
                simp [k2, k3, k4, k5, k6]
                exact tail _ (by simp) (by simp) (by simp [k7]) c1

theorem ref_RightPred (hX : OnlyKnown X) {h : Heap} {c : List AVal} {x : Prd} (r : prR.rep h c x) (z1 : SzN x) : Tells (fun q => acallX Try.prog X q F_precentorref1_RightPred [.agg c] h) fun r h' => r = .bool (rightP x) ∧ Ext [] h h' := by
  obtain ⟨sv, rfl, os, _⟩ := r
  refine R_precentorref1_RightPred _ (hX _ _ rfl) ?_
  refine Tells.prot fun Q' hQ => ?_
  unfold S_precentorref1_RightPred
  simp [prC, vlC]
  refine Tells.box rfl rfl fun h1 bp o1 x1 l1 => ?_
  have o1 : Ob h1 bp (prC x sv) := o1
  have os1 := os.ext x1
  simp [o1.1, prC, vlC]
  refine Tells.bind (ref_Word hX x.name z1.2 h1) ?_
  rintro _ h2 ⟨rfl, rfl⟩
  cases ew : wordB x.name with
  | false =>
    try simp
    exact Tells.ok (hQ _ _ ⟨by simp [rightP, ew], x1⟩)
  | true =>
    -- two values, and no set
    have l0 : ((x.set.length : Int) == 0) = decide (x.set.length = 0) := by
      by_cases q : x.set.length = 0
      · rw [q]; rfl
      · rw [beq_eq_false_iff_ne.2 (by omega)]; simp [q]
    have tail : ∀ (t : T), t 1 = .ptr bp 0 → t 9 = I x.test → t 26 = .bool (decide (2 ≤ x.test ∧ x.test ≤ 7)) → x.test ≠ 1 →
        Tells (fun m => J_precentorref1_RightPred_2 Try.prog (acallX Try.prog X m) m (blkK 0 (sqK (J_precentorref1_RightPred_1 Try.prog (acallX Try.prog X m) m (retK Try.prog [.tmp 2])) (retK Try.prog [.tmp 2]))) t h2) Q' := by
      intro t t1 tk tf n1
      by_cases c1 : 2 ≤ x.test ∧ x.test ≤ 7
      · have eP : rightP x = (rightV x.v && (zeroB x.w && decide (x.set.length = 0))) := by simp [rightP, ew, n1, c1]
        simp [J_precentorref1_RightPred_2, tf, c1, t1, o1.1, prC, vlC]
        refine Tells.bind (ref_RightValue hX x.v h2) ?_
        rintro _ h3 ⟨rfl, x3⟩
        have o3 := o1.e x3
        cases e1 : rightV x.v with
        | false =>
          try simp
          exact Tells.ok (hQ _ _ ⟨by simp [eP, e1], x1.trans x3⟩)
        | true =>
          simp [t1, o3.1, prC, vlC]
          refine Tells.bind (ref_zero hX x.w h3) ?_
          rintro _ h4 ⟨rfl, x4⟩
          have o4 := o3.e x4
          cases e2 : zeroB x.w with
          | false =>
            try simp
            exact Tells.ok (hQ _ _ ⟨by simp [eP, e1, e2], (x1.trans x3).trans x4⟩)
          | true =>
            simp [t1, o4.1, prC, vlC, ((os1.ext x3).ext x4).len, l0]
            exact Tells.ok (hQ _ _ ⟨by simp [eP, e1, e2], (x1.trans x3).trans x4⟩)
      · by_cases c2 : x.test = 8
        · have eP : rightP x = (rightV x.v && (rightV x.w && decide (x.set.length = 0))) := by simp [rightP, ew, c2]
          simp [J_precentorref1_RightPred_2, tf, tk, c1, c2, t1, o1.1, prC, vlC]
          refine Tells.bind (ref_RightValue hX x.v h2) ?_
          rintro _ h3 ⟨rfl, x3⟩
          have o3 := o1.e x3
          cases e1 : rightV x.v with
          | false =>
            try simp
            exact Tells.ok (hQ _ _ ⟨by simp [eP, e1], x1.trans x3⟩)
          | true =>
            simp [t1, o3.1, prC, vlC]
            refine Tells.bind (ref_RightValue hX x.w h3) ?_
            rintro _ h4 ⟨rfl, x4⟩
            have o4 := o3.e x4
            cases e2 : rightV x.w with
            | false =>
              try simp
              exact Tells.ok (hQ _ _ ⟨by simp [eP, e1, e2], (x1.trans x3).trans x4⟩)
            | true =>
              simp [t1, o4.1, prC, vlC, ((os1.ext x3).ext x4).len, l0]
              exact Tells.ok (hQ _ _ ⟨by simp [eP, e1, e2], (x1.trans x3).trans x4⟩)
        · have b2 : (x.test == 8) = false := beq_eq_false_iff_ne.2 c2
          by_cases c3 : x.test = 9
          · have eP : rightP x = (rightV x.v && (x.v.k == 3 && (zeroB x.w && decide (x.set.length = 0)))) := by simp [rightP, ew, c3]
            simp [J_precentorref1_RightPred_2, tf, tk, c1, c3, t1, o1.1, prC, vlC]
            refine Tells.bind (ref_RightValue hX x.v h2) ?_
            rintro _ h3 ⟨rfl, x3⟩
            have o3 := o1.e x3
            cases e1 : rightV x.v with
            | false =>
              try simp
              exact Tells.ok (hQ _ _ ⟨by simp [eP, e1], x1.trans x3⟩)
            | true =>
              cases e3 : (x.v.k == 3) with
              | false =>
                simp [t1, o3.1, prC, vlC, e3]
                exact Tells.ok (hQ _ _ ⟨by simp [eP, e1, e3], x1.trans x3⟩)
              | true =>
                simp [t1, o3.1, prC, vlC, e3]
                refine Tells.bind (ref_zero hX x.w h3) ?_
                rintro _ h4 ⟨rfl, x4⟩
                have o4 := o3.e x4
                cases e2 : zeroB x.w with
                | false =>
                  try simp
                  exact Tells.ok (hQ _ _ ⟨by simp [eP, e1, e2, e3], (x1.trans x3).trans x4⟩)
                | true =>
                  simp [t1, o4.1, prC, vlC, ((os1.ext x3).ext x4).len, l0]
                  exact Tells.ok (hQ _ _ ⟨by simp [eP, e1, e2, e3], (x1.trans x3).trans x4⟩)
          · have b3 : (x.test == 9) = false := beq_eq_false_iff_ne.2 c3
            by_cases c4 : x.test = 10
            · have eP : rightP x = (zeroB x.v && (zeroB x.w && (decide (1 ≤ x.set.length) && (decide (x.set.length ≤ 4) && x.set.all rightV)))) := by simp [rightP, ew, c4]
              have zz : x.set.length ≤ 1000 := z1.1
              simp [J_precentorref1_RightPred_2, tf, tk, c1, c4, t1]
              refine Tells.bind (Tells.loop (fun k t g => ∃ i : Nat, t 1 = .ptr bp 0 ∧ t 3 = I i ∧ i + k = x.set.length ∧ x.set.all rightV = (x.set.drop i).all rightV ∧ Ext [] h2 g)
                (Q := fun r g => ((r.1 = .exit 1 ∧ r.2 1 = .ptr bp 0 ∧ x.set.all rightV = true) ∨ (r.1 = .ret ∧ r.2 2 = .bool false ∧ x.set.all rightV = false)) ∧ Ext [] h2 g) ?_ x.set.length _ _ ⟨0, by simp [t1], by simp, by omega, by simp, .refl⟩) ?_
              · rintro k t g ⟨i, t1, t3, hi, hs, xg⟩
                refine Tells.prot fun Q2 hQ2 => ?_
                unfold L_precentorref1_RightPred_4
                have og := os1.ext xg
                have oo := o1.e xg
                simp [t1, t3, oo.1, prC, vlC, og.len]
                refine Tells.cb (fun hc => ?_) (fun hc => ?_)
                · simp at hc
                  obtain ⟨y, hy⟩ : ∃ y, x.set[i]? = some y := ⟨_, List.getElem?_eq_getElem hc⟩
                  obtain ⟨b1, p1, B1, c1, q1, q2, q3⟩ := og.at (n := 5) rfl (i := (i : Int)) (by omega) (by simpa using hy)
                  have q3 : c1 = vlC y := q3
                  subst q3
                  have w : IntKind.i64.wrap ((i : Int) + 1) = i + 1 := wrap_id (by omega) (by omega)
                  have q4 := q2.lda (n := 5) rfl
                  have e : (x.set.drop i).all rightV = (rightV y && (x.set.drop (i + 1)).all rightV) := by rw [List.drop_eq_getElem_cons hc, (List.getElem?_eq_some_iff.1 hy).2, List.all_cons]
                  simp [J_precentorref1_RightPred_5, t1, t3, oo.1, prC, vlC, q1]
                  simp [vlC] at q4
                  try simp [q4]
                  refine Tells.bind (ref_RightValue hX y g) ?_
                  rintro _ g2 ⟨rfl, x2⟩
                  cases hf : rightV y with
                  | false =>
                    try simp
                    exact Tells.ok (hQ2 _ _ (.inr ⟨by simp, .inr ⟨rfl, by simp, by rw [hs, e, hf]; rfl⟩, xg.trans x2⟩))
                  | true =>
                    simp [J_precentorref1_RightPred_6, t3, w]
                    exact Tells.ok (hQ2 _ _ (.inl ⟨rfl, k - 1, by omega, i + 1, by simp [t1], by simp, by omega, by rw [hs, e, hf]; rfl, xg.trans x2⟩))
                · simp at hc
                  refine Tells.ok (hQ2 _ _ (.inr ⟨by simp, .inl ⟨rfl, by simp [t1], ?_⟩, xg⟩))
                  rw [hs, List.drop_eq_nil_of_le (by omega)]
                  rfl
              · rintro ⟨ex, t⟩ g ⟨⟨rfl, t1, he⟩ | ⟨rfl, t2, he⟩, xg⟩
                · have t1 : t 1 = .ptr bp 0 := t1
                  have og := o1.e xg
                  have X2 := x1.trans xg
                  have osg := os1.ext xg
                  simp [J_precentorref1_RightPred_3, t1, og.1, prC, vlC]
                  refine Tells.bind (ref_zero hX x.v g) ?_
                  rintro _ h3 ⟨rfl, x3⟩
                  have o3 := og.e x3
                  cases e1 : zeroB x.v with
                  | false =>
                    try simp
                    exact Tells.ok (hQ _ _ ⟨by simp [eP, e1], X2.trans x3⟩)
                  | true =>
                    simp [t1, o3.1, prC, vlC]
                    refine Tells.bind (ref_zero hX x.w h3) ?_
                    rintro _ h4 ⟨rfl, x4⟩
                    have o4 := o3.e x4
                    have os4 := (osg.ext x3).ext x4
                    have X4 := (X2.trans x3).trans x4
                    cases e2 : zeroB x.w with
                    | false =>
                      try simp
                      exact Tells.ok (hQ _ _ ⟨by simp [eP, e1, e2], X4⟩)
                    | true =>
                      by_cases s1 : 1 ≤ x.set.length
                      · have s1' : (1 : Int) ≤ x.set.length := by omega
                        by_cases s2 : x.set.length ≤ 4
                        · have s2' : (x.set.length : Int) ≤ 4 := by omega
                          simp [t1, o4.1, prC, vlC, os4.len, s1, s1', s2, s2']
                          exact Tells.ok (hQ _ _ ⟨by simp [eP, e1, e2, s1, s2, he], X4⟩)
                        · have s2' : ¬ (x.set.length : Int) ≤ 4 := by omega
                          simp [t1, o4.1, prC, vlC, os4.len, s1, s1', s2, s2']
                          exact Tells.ok (hQ _ _ ⟨by simp [eP, e1, e2, s1, s2], X4⟩)
                      · have s1' : ¬ (1 : Int) ≤ x.set.length := by omega
                        simp [t1, o4.1, prC, vlC, os4.len, s1, s1']
                        exact Tells.ok (hQ _ _ ⟨by simp [eP, e1, e2, s1], X4⟩)
                · have t2 : t 2 = .bool false := t2
                  simp [t2]
                  exact Tells.ok (hQ _ _ ⟨by simp [eP, he], x1.trans xg⟩)
            · have b4 : (x.test == 10) = false := beq_eq_false_iff_ne.2 c4
              have eP : rightP x = false := by simp [rightP, ew, n1, c1, c2, c3, c4]
              simp [J_precentorref1_RightPred_2, tf, tk, c1, b2, b3, b4, J_precentorref1_RightPred_1]
              exact Tells.ok (hQ _ _ ⟨by simp [eP], x1⟩)
    by_cases c1 : x.test = 1
    · have eP : rightP x = (zeroB x.v && (zeroB x.w && decide (x.set.length = 0))) := by simp [rightP, ew, c1]
      simp [J_precentorref1_RightPred_0, o1.1, prC, vlC, c1]
      refine Tells.bind (ref_zero hX x.v h2) ?_
      rintro _ h3 ⟨rfl, x3⟩
      have o3 := o1.e x3
      cases e1 : zeroB x.v with
      | false =>
        try simp
        exact Tells.ok (hQ _ _ ⟨by simp [eP, e1], x1.trans x3⟩)
      | true =>
        simp [o3.1, prC, vlC]
        refine Tells.bind (ref_zero hX x.w h3) ?_
        rintro _ h4 ⟨rfl, x4⟩
        have o4 := o3.e x4
        cases e2 : zeroB x.w with
        | false =>
          try simp
          exact Tells.ok (hQ _ _ ⟨by simp [eP, e1, e2], (x1.trans x3).trans x4⟩)
        | true =>
          simp [o4.1, prC, vlC, ((os1.ext x3).ext x4).len, l0]
          exact Tells.ok (hQ _ _ ⟨by simp [eP, e1, e2], (x1.trans x3).trans x4⟩)
    · have b1 : (x.test == 1) = false := beq_eq_false_iff_ne.2 c1
      simp [J_precentorref1_RightPred_0, o1.1, prC, vlC, b1]
      by_cases d2 : x.test = 2
      · simp [d2]
        exact tail _ (by simp) (by simp [d2]) (by simp [d2]) c1
      · have k2 : (x.test == 2) = false := beq_eq_false_iff_ne.2 d2
        by_cases d3 : x.test = 3
        · simp [k2, d3]
          exact tail _ (by simp) (by simp [d3]) (by simp [d3]) c1
        · have k3 : (x.test == 3) = false := beq_eq_false_iff_ne.2 d3
          by_cases d4 : x.test = 4
          · simp [k2, k3, d4]
            exact tail _ (by simp) (by simp [d4]) (by simp [d4]) c1
          · have k4 : (x.test == 4) = false := beq_eq_false_iff_ne.2 d4
            by_cases d5 : x.test = 5
            · simp [k2, k3, k4, d5]
              exact tail _ (by simp) (by simp [d5]) (by simp [d5]) c1
            · have k5 : (x.test == 5) = false := beq_eq_false_iff_ne.2 d5
              by_cases d6 : x.test = 6
              · simp [k2, k3, k4, k5, d6]
                exact tail _ (by simp) (by simp [d6]) (by simp [d6]) c1
              · have k6 : (x.test == 6) = false := beq_eq_false_iff_ne.2 d6
                have k7 : (x.test == 7) = decide (2 ≤ x.test ∧ x.test ≤ 7) := by
                  by_cases q : x.test = 7
                  · rw [q]; decide
                  · rw [beq_eq_false_iff_ne.2 q]
                    have : ¬ (2 ≤ x.test ∧ x.test ≤ 7) := by omega
                    simp [this]
                simp [k2, k3, k4, k5, k6]
                exact tail _ (by simp) (by simp) (by simp [k7]) c1

end
end Go.Proofs.Ytooeiefgnhgbeaa

/-! Filters and subscriptions that are right. -/
namespace Go.Proofs.Ytooeiefgnhgbeaa
open Go.Ab

def mayB (s : Sx) : Bool := decide (1 ≤ s.c) && (decide (s.c ≤ 6) && (decide (0 ≤ s.b) && (decide (s.b ≤ 7) && (decide (1 ≤ s.n) && (decide (s.n ≤ 4611686018427387904) && rightFl s.fl)))))
def SzR (s : Sx) : Prop := s.fl.length ≤ 1000 ∧ ∀ p, p ∈ s.fl → SzN p

section
variable {X : XTab}

theorem filter_Right (hX : OnlyKnown X) {h : Heap} {v : AVal} {l : List Prd} (o : Sl prR h v l) (hl : l.length ≤ 1000) (sz : ∀ p, p ∈ l → SzN p) : Tells (fun q => acallX Try.prog X q F_filter_Right [v] h) fun r h' => r = .bool (rightFl l) ∧ Ext [] h h' := by
  refine R_filter_Right _ (hX _ _ rfl) ?_
  refine Tells.prot fun Q' hQ => ?_
  unfold S_filter_Right
  by_cases h3 : l.length ≤ 3
  · have h3' : ¬ (3 : Int) < l.length := by omega
    have h3'' : ¬ 3 < l.length := by omega
    simp [o.len, h3', h3'', J_filter_Right_0]
    refine Tells.bind (Tells.loop (fun k t g => ∃ i : Nat, t 0 = v ∧ t 8 = v ∧ t 9 = I l.length ∧ t 10 = I i ∧ i + k = l.length ∧ rightFs none l = rightFs (prevP l i) (l.drop i) ∧ Ext [] h g)
      (Q := fun r g => ((r.1 = .exit 0 ∧ rightFs none l = true) ∨ (r.1 = .ret ∧ r.2 2 = .bool false ∧ rightFs none l = false)) ∧ Ext [] h g) ?_ l.length _ _ ⟨0, by simp, by simp, by simp, by simp, by omega, by simp [prevP], .refl⟩) ?_
    · rintro k t g ⟨i, t0, t8, t9, t10, hi, hs, xg⟩
      refine Tells.prot fun Q2 hQ2 => ?_
      unfold L_filter_Right_2
      have og := o.ext xg
      simp [t9, t10]
      refine Tells.cb (fun hc => ?_) (fun hc => ?_)
      · simp at hc
        obtain ⟨x, hx⟩ : ∃ x, l[i]? = some x := ⟨_, List.getElem?_eq_getElem hc⟩
        obtain ⟨b1, p1, B1, c1, q1, q2, sv, rfl, os, _⟩ := og.at (n := 13) rfl (i := (i : Int)) (by omega) (by simpa using hx)
        have w : IntKind.i64.wrap ((i : Int) + 1) = i + 1 := wrap_id (by omega) (by omega)
        have q4 := q2.lda (n := 13) rfl
        have e := rightFs_drop hx
        simp [J_filter_Right_3, t8, t10, q1, q4]
        refine Tells.newSt (ds := prC x sv) (by rfl) (by rfl) (by rfl) (by simp [prC, vlC, os.one]) fun g1 bp op x1 l1 => ?_
        have rep1 : prR.rep g1 (prC x sv) x := ⟨sv, rfl, os.ext x1, fun _ _ => trivial⟩
        have ld : ldn 13 g1 (.ptr bp 0) = some (.agg (prC x sv)) := by simp [op.1, prC, vlC]
        simp [ld]
        refine Tells.cbE (pred_Right hX rep1 (sz x (List.mem_of_getElem? hx))) ?_
        rintro _ g2 ⟨rfl, x2⟩
        have op2 := op.e x2
        have X2 := (xg.trans x1).trans x2
        cases e1 : rightP x with
        | false =>
          try simp
          exact Tells.ok (hQ2 _ _ (.inr ⟨by simp, .inr ⟨rfl, by simp, by rw [hs, e, e1]; rfl⟩, X2⟩))
        | true =>
          by_cases h0 : i = 0
          · subst h0
            simp [t10, J_filter_Right_4]
            exact Tells.ok (hQ2 _ _ (.inl ⟨rfl, k - 1, by omega, 1, by simp [t0], by simp [t8], by simp [t9], by simp; rfl, by omega, by rw [hs, e, e1]; simp [prevP], X2⟩))
          · obtain ⟨y, hy⟩ : ∃ y, l[i - 1]? = some y := ⟨_, List.getElem?_eq_getElem (by omega)⟩
            have h0' : (0 : Int) < i := by omega
            have h0'' : 0 < i := by omega
            have w1 : IntKind.i64.wrap ((i : Int) - 1) = ((i - 1 : Nat) : Int) := by rw [wrap_id (by omega) (by omega)]; omega
            obtain ⟨b2, p2, B2, c2, r1, r2, sw, rfl, ow, _⟩ := (og.ext x1 |>.ext x2).at (n := 13) rfl (i := ((i - 1 : Nat) : Int)) (by omega) (by simpa using hy)
            have r4 := r2.cell0 (by simp [prC])
            simp [prC] at r4
            have ep : prevP l i = some y.name := by simp [prevP, h0, hy]
            rw [ep] at e
            simp only at e
            cases e2 : (Op.bytesLess y.name.toList x.name.toList || y.name.toList == x.name.toList) with
            | true =>
              have fin : ∀ t2 : T, t2 0 = v → t2 8 = v → t2 9 = I l.length → t2 10 = I ((i : Int) + 1) → Q2 (.normal, t2) g2 := fun t2 a0 a8 a9 a10 => hQ2 _ _ (.inl ⟨rfl, k - 1, by omega, i + 1, a0, a8, a9, a10, by omega, by rw [hs, ep, e, e1, e2]; rfl, X2⟩)
              rcases Bool.or_eq_true _ _ ▸ e2 with q | q
              · simp [t10, t0, h0', h0'', w1, r1, r2.get, r4, op2.1, prC, vlC, q, J_filter_Right_4, w]
                exact Tells.ok (fin _ (by simp [t0]) (by simp [t8]) (by simp [t9]) (by simp))
              · simp [t10, t0, h0', h0'', w1, r1, r2.get, r4, op2.1, prC, vlC, q, J_filter_Right_4, w]
                exact Tells.ok (fin _ (by simp [t0]) (by simp [t8]) (by simp [t9]) (by simp))
            | false =>
              have e3 := e2
              simp only [Bool.or_eq_false_iff] at e3
              simp [t10, t0, h0', h0'', w1, r1, r2.get, r4, op2.1, prC, vlC, e3.1, e3.2]
              exact Tells.ok (hQ2 _ _ (.inr ⟨by simp, .inr ⟨rfl, by simp, by rw [hs, ep, e, e1, e2]; rfl⟩, X2⟩))
      · simp at hc
        refine Tells.ok (hQ2 _ _ (.inr ⟨by simp, .inl ⟨rfl, ?_⟩, xg⟩))
        rw [hs, List.drop_eq_nil_of_le (by omega)]
        rfl
    · rintro ⟨ex, t⟩ g ⟨⟨rfl, he⟩ | ⟨rfl, t2, he⟩, xg⟩
      · simp [J_filter_Right_1]
        exact Tells.ok (hQ _ _ ⟨by simp [rightFl, he, h3], xg⟩)
      · have t2 : t 2 = .bool false := t2
        simp [t2]
        exact Tells.ok (hQ _ _ ⟨by simp [rightFl, he], xg⟩)
  · have h3' : (3 : Int) < l.length := by omega
    have h3'' : 3 < l.length := by omega
    simp [o.len, h3', h3'']
    exact Tells.ok (hQ _ _ ⟨by simp [rightFl, h3], .refl⟩)

theorem ref_RightFilter (hX : OnlyKnown X) {h : Heap} {v : AVal} {l : List Prd} (o : Sl prR h v l) (hl : l.length ≤ 1000) (sz : ∀ p, p ∈ l → SzN p) : Tells (fun q => acallX Try.prog X q F_precentorref1_RightFilter [v] h) fun r h' => r = .bool (rightFl l) ∧ Ext [] h h' := by
  refine R_precentorref1_RightFilter _ (hX _ _ rfl) ?_
  refine Tells.prot fun Q' hQ => ?_
  unfold S_precentorref1_RightFilter
  try simp
  refine Tells.bind (Tells.loop (fun k t g => ∃ i : Nat, t 0 = v ∧ t 3 = I i ∧ i + k = l.length ∧ rightFs none l = rightFs (prevP l i) (l.drop i) ∧ Ext [] h g)
    (Q := fun r g => ((r.1 = .exit 0 ∧ r.2 0 = v ∧ rightFs none l = true) ∨ (r.1 = .ret ∧ r.2 2 = .bool false ∧ rightFs none l = false)) ∧ Ext [] h g) ?_ l.length _ _ ⟨0, by simp, by simp, by omega, by simp [prevP], .refl⟩) ?_
  · rintro k t g ⟨i, t0, t3, hi, hs, xg⟩
    refine Tells.prot fun Q2 hQ2 => ?_
    unfold L_precentorref1_RightFilter_1
    have og := o.ext xg
    simp [t3, t0, og.len]
    refine Tells.cb (fun hc => ?_) (fun hc => ?_)
    · simp at hc
      obtain ⟨x, hx⟩ : ∃ x, l[i]? = some x := ⟨_, List.getElem?_eq_getElem hc⟩
      obtain ⟨b1, p1, B1, c1, q1, q2, sv, rfl, os, _⟩ := og.at (n := 13) rfl (i := (i : Int)) (by omega) (by simpa using hx)
      have w : IntKind.i64.wrap ((i : Int) + 1) = i + 1 := wrap_id (by omega) (by omega)
      have q4 := q2.lda (n := 13) rfl
      have e := rightFs_drop hx
      have rep1 : prR.rep g (prC x sv) x := ⟨sv, rfl, os, fun _ _ => trivial⟩
      simp [J_precentorref1_RightFilter_2, t0, t3, q1, q4]
      refine Tells.cbE (ref_RightPred hX rep1 (sz x (List.mem_of_getElem? hx))) ?_
      rintro _ g2 ⟨rfl, x2⟩
      have X2 := xg.trans x2
      cases e1 : rightP x with
      | false =>
        try simp
        exact Tells.ok (hQ2 _ _ (.inr ⟨by simp, .inr ⟨rfl, by simp, by rw [hs, e, e1]; rfl⟩, X2⟩))
      | true =>
        by_cases h0 : i = 0
        · subst h0
          simp [t3, J_precentorref1_RightFilter_3]
          exact Tells.ok (hQ2 _ _ (.inl ⟨rfl, k - 1, by omega, 1, by simp [t0], by simp; rfl, by omega, by rw [hs, e, e1]; simp [prevP], X2⟩))
        · obtain ⟨y, hy⟩ : ∃ y, l[i - 1]? = some y := ⟨_, List.getElem?_eq_getElem (by omega)⟩
          have h0' : (0 : Int) < i := by omega
          have h0'' : 0 < i := by omega
          have w1 : IntKind.i64.wrap ((i : Int) - 1) = ((i - 1 : Nat) : Int) := by rw [wrap_id (by omega) (by omega)]; omega
          obtain ⟨b2, p2, B2, c2, r1, r2, sw, rfl, ow, _⟩ := (og.ext x2).at (n := 13) rfl (i := ((i - 1 : Nat) : Int)) (by omega) (by simpa using hy)
          obtain ⟨b3, p3, B3, c3, s1, s2, sw', rfl, ow', _⟩ := (og.ext x2).at (n := 13) rfl (i := (i : Int)) (by omega) (by simpa using hx)
          cases q1.symm.trans s1
          have r4 := r2.cell0 (by simp [prC])
          have s4 := s2.cell0 (by simp [prC])
          simp [prC] at r4 s4
          have ep : prevP l i = some y.name := by simp [prevP, h0, hy]
          rw [ep] at e
          simp only at e
          cases e2 : (Op.bytesLess y.name.toList x.name.toList || y.name.toList == x.name.toList) with
          | true =>
            have fin : ∀ t2 : T, t2 0 = v → t2 3 = I ((i : Int) + 1) → Q2 (.normal, t2) g2 := fun t2 a0 a10 => hQ2 _ _ (.inl ⟨rfl, k - 1, by omega, i + 1, a0, a10, by omega, by rw [hs, ep, e, e1, e2]; rfl, X2⟩)
            rcases Bool.or_eq_true _ _ ▸ e2 with q | q
            · simp [t3, t0, h0', h0'', w1, r1, r2.get, r4, q1, s2.get, s4, q, J_precentorref1_RightFilter_3, w]
              exact Tells.ok (fin _ (by simp [t0]) (by simp))
            · simp [t3, t0, h0', h0'', w1, r1, r2.get, r4, q1, s2.get, s4, q, J_precentorref1_RightFilter_3, w]
              exact Tells.ok (fin _ (by simp [t0]) (by simp))
          | false =>
            have e3 := e2
            simp only [Bool.or_eq_false_iff] at e3
            simp [t3, t0, h0', h0'', w1, r1, r2.get, r4, q1, s2.get, s4, e3.1, e3.2]
            exact Tells.ok (hQ2 _ _ (.inr ⟨by simp, .inr ⟨rfl, by simp, by rw [hs, ep, e, e1, e2]; rfl⟩, X2⟩))
    · simp at hc
      refine Tells.ok (hQ2 _ _ (.inr ⟨by simp, .inl ⟨rfl, by simp [t0], ?_⟩, xg⟩))
      rw [hs, List.drop_eq_nil_of_le (by omega)]
      rfl
  · rintro ⟨ex, t⟩ g ⟨⟨rfl, t0, he⟩ | ⟨rfl, t2, he⟩, xg⟩
    · have t0 : t 0 = v := t0
      have l3 : decide ((l.length : Int) ≤ 3) = decide (l.length ≤ 3) := by
        by_cases q : l.length ≤ 3
        · have : (l.length : Int) ≤ 3 := by omega
          simp [q, this]
        · have : ¬ (l.length : Int) ≤ 3 := by omega
          simp [q, this]
      simp [J_precentorref1_RightFilter_0, t0, (o.ext xg).len]
      exact Tells.ok (hQ _ _ ⟨by rw [rightFl, he, Bool.and_true]; first | rw [l3] | (congr 1; exact l3) | simpa using l3, xg⟩)
    · have t2 : t 2 = .bool false := t2
      simp [t2]
      exact Tells.ok (hQ _ _ ⟨by simp [rightFl, he], xg⟩)

theorem subs_may (hX : OnlyKnown X) {h : Heap} {fv : AVal} {s : Sx} (o : Sl prR h fv s.fl) (sz : SzR s) : Tells (fun q => acallX Try.prog X q F_subs_may [.agg (sxC s fv)] h) fun r h' => r = .bool (mayB s) ∧ Ext [] h h' := by
  refine R_subs_may _ (hX _ _ rfl) ?_
  refine Tells.prot fun Q' hQ => ?_
  unfold S_subs_may
  simp [sxC]
  refine Tells.box rfl rfl fun h1 bp o1 x1 l1 => ?_
  have o1 : Ob h1 bp (sxC s fv) := o1
  by_cases c1 : 1 ≤ s.c
  · by_cases c2 : s.c ≤ 6
    · by_cases c3 : 0 ≤ s.b
      · by_cases c4 : s.b ≤ 7
        · by_cases c5 : 1 ≤ s.n
          · by_cases c6 : s.n ≤ 4611686018427387904
            · simp [o1.1, sxC, c1, c2, c3, c4, c5, c6]
              refine Tells.bind (filter_Right hX (o.ext x1) sz.1 sz.2) ?_
              rintro _ h2 ⟨rfl, x2⟩
              try simp
              exact Tells.ok (hQ _ _ ⟨by simp [mayB, c1, c2, c3, c4, c5, c6], x1.trans x2⟩)
            · simp [o1.1, sxC, c1, c2, c3, c4, c5, c6]
              exact Tells.ok (hQ _ _ ⟨by simp [mayB, c6], x1⟩)
          · simp [o1.1, sxC, c1, c2, c3, c4, c5]
            exact Tells.ok (hQ _ _ ⟨by simp [mayB, c5], x1⟩)
        · simp [o1.1, sxC, c1, c2, c3, c4]
          exact Tells.ok (hQ _ _ ⟨by simp [mayB, c4], x1⟩)
      · simp [o1.1, sxC, c1, c2, c3]
        exact Tells.ok (hQ _ _ ⟨by simp [mayB, c3], x1⟩)
    · simp [o1.1, sxC, c1, c2]
      exact Tells.ok (hQ _ _ ⟨by simp [mayB, c2], x1⟩)
  · simp [o1.1, sxC, c1]
    exact Tells.ok (hQ _ _ ⟨by simp [mayB, c1], x1⟩)
end
end Go.Proofs.Ytooeiefgnhgbeaa

/-! Subscriptions that are right, in order. -/
namespace Go.Proofs.Ytooeiefgnhgbeaa
open Go.Ab

/-- May the i-th be, behind those ahead? -/
def okS (l : List Sx) (i : Nat) : Bool := match l[i]? with
  | none => true
  | some s => mayB s && ((if i = 0 then true else match l[i - 1]? with
      | some p => (decide (p.c < s.c) || (p.c == s.c && decide (p.n < s.n))) && !(p.c == s.c && p.b != s.b)
      | none => true) && (if i < 3 then true else match l[i - 3]? with
      | some q => q.c != s.c
      | none => true))
def rightS (l : List Sx) : Bool := (List.range l.length).all (okS l)
theorem rightS_true {l : List Sx} (h : ∀ j, j < l.length → okS l j = true) : rightS l = true := by
  unfold rightS
  rw [List.all_eq_true]
  intro j hj
  exact h j (List.mem_range.1 hj)
theorem rightS_false {l : List Sx} {i : Nat} (hi : i < l.length) (h : okS l i = false) : rightS l = false := by
  unfold rightS
  rw [List.all_eq_false]
  exact ⟨i, List.mem_range.2 hi, by simp [h]⟩

/-- How many of the last one's client there are, behind i. -/
def Mn (l : List Sx) (i m : Nat) : Prop := 0 < i → 1 ≤ m ∧ m ≤ 3 ∧ m ≤ i ∧ ∀ j p q, l[i - 1]? = some p → l[j]? = some q → j < i → if i - m ≤ j then q.c = p.c else q.c < p.c
theorem Mn.zero (l : List Sx) (m : Nat) : Mn l 0 m := fun h => by omega

section
variable {l : List Sx} {i m : Nat} {s p : Sx}
theorem okS_one (hs : l[0]? = some s) : okS l 0 = mayB s ∧ Mn l 1 1 := by
  refine ⟨by simp [okS, hs], fun _ => ⟨by omega, by omega, by omega, fun j p q hp hq hj => ?_⟩⟩
  have : j = 0 := by omega
  subst this
  simp at hp
  rw [hp] at hq
  cases hq
  rw [if_pos (by omega)]
theorem okS_up (k : Mn l i m) (h0 : 0 < i) (hs : l[i]? = some s) (hp : l[i - 1]? = some p) (hc : p.c < s.c) : okS l i = mayB s ∧ Mn l (i + 1) 1 := by
  obtain ⟨k1, k2, k3, k4⟩ := k h0
  have le : ∀ j q, l[j]? = some q → j < i → q.c ≤ p.c := fun j q hq hj => by
    have := k4 j p q hp hq hj
    split at this <;> omega
  refine ⟨?_, fun _ => ⟨by omega, by omega, by omega, fun j p' q hp' hq hj => ?_⟩⟩
  · have n0 : ¬ i = 0 := by omega
    have e1 : (p.c == s.c) = false := beq_eq_false_iff_ne.2 (by omega)
    simp only [okS, hs, n0, if_false, hp, e1, Bool.false_and, Bool.not_false, Bool.and_true, Bool.or_false, decide_eq_true hc, Bool.true_and]
    by_cases h3 : i < 3
    · simp [h3]
    · rw [if_neg h3]
      obtain ⟨q, hq⟩ : ∃ q, l[i - 3]? = some q := ⟨_, List.getElem?_eq_getElem (by have := (List.getElem?_eq_some_iff.1 hs).1; omega)⟩
      have := le _ q hq (by omega)
      have e2 : (q.c != s.c) = true := by simp; omega
      simp [hq, e2]
  · simp at hp'
    rw [hs] at hp'
    cases hp'
    by_cases hji : j = i
    · subst hji
      rw [hs] at hq
      cases hq
      rw [if_pos (by omega)]
    · rw [if_neg (by omega)]
      have := le j q hq (by omega)
      omega
theorem okS_eq (k : Mn l i m) (h0 : 0 < i) (hs : l[i]? = some s) (hp : l[i - 1]? = some p) (hc : p.c = s.c) (hn : p.n < s.n) (hb : p.b = s.b) (hm : m + 1 ≤ 3) : okS l i = mayB s ∧ Mn l (i + 1) (m + 1) := by
  obtain ⟨k1, k2, k3, k4⟩ := k h0
  refine ⟨?_, fun _ => ⟨by omega, by omega, by omega, fun j p' q hp' hq hj => ?_⟩⟩
  · have n0 : ¬ i = 0 := by omega
    simp only [okS, hs, n0, if_false, hp, hc, hb]
    by_cases h3 : i < 3
    · simp [h3, hn]
    · rw [if_neg h3]
      obtain ⟨q, hq⟩ : ∃ q, l[i - 3]? = some q := ⟨_, List.getElem?_eq_getElem (by have := (List.getElem?_eq_some_iff.1 hs).1; omega)⟩
      have := k4 _ p q hp hq (by omega)
      rw [if_neg (by omega)] at this
      have e2 : (q.c != s.c) = true := by simp; omega
      simp [hq, e2, hn]
  · simp at hp'
    rw [hs] at hp'
    cases hp'
    by_cases hji : j = i
    · subst hji
      rw [hs] at hq
      cases hq
      rw [if_pos (by omega)]
    · have := k4 j p q hp hq (by omega)
      by_cases c : i - m ≤ j
      · rw [if_pos c] at this
        rw [if_pos (by omega)]
        omega
      · rw [if_neg c] at this
        rw [if_neg (by omega)]
        omega
theorem okS_bad (k : Mn l i m) (h0 : 0 < i) (hs : l[i]? = some s) (hp : l[i - 1]? = some p) (hc : ¬ p.c < s.c) (hb : ¬ (p.c = s.c ∧ p.n < s.n ∧ p.b = s.b ∧ m + 1 ≤ 3)) : okS l i = false := by
  obtain ⟨k1, k2, k3, k4⟩ := k h0
  have n0 : ¬ i = 0 := by omega
  simp only [okS, hs, n0, if_false, hp, decide_eq_false hc, Bool.false_or]
  by_cases c1 : p.c = s.c
  · by_cases c2 : p.n < s.n
    · by_cases c3 : p.b = s.b
      · have hm : m = 3 := by omega
        subst hm
        rw [if_neg (show ¬ i < 3 by omega)]
        obtain ⟨q, hq⟩ : ∃ q, l[i - 3]? = some q := ⟨_, List.getElem?_eq_getElem (by have := (List.getElem?_eq_some_iff.1 hs).1; omega)⟩
        have := k4 _ p q hp hq (by omega)
        rw [if_pos (by omega)] at this
        have e2 : (q.c != s.c) = false := by simp; omega
        simp [hq, e2]
      · have e3 : (p.b != s.b) = true := by simp [c3]
        simp [c1, e3]
    · simp [c2]
  · have e1 : (p.c == s.c) = false := beq_eq_false_iff_ne.2 c1
    simp [e1]
theorem okS_may (hs : l[i]? = some s) (h : mayB s = false) : okS l i = false := by simp [okS, hs, h]
end

section
variable {X : XTab}
theorem subs_Right (hX : OnlyKnown X) {h : Heap} {v : AVal} {l : List Sx} (o : Sl sxR h v l) (hl : l.length ≤ 1000) (sz : ∀ s, s ∈ l → SzR s) : Tells (fun q => acallX Try.prog X q F_subs_Right [v] h) fun r h' => r = .bool (rightS l) ∧ Ext [] h h' := by
  refine R_subs_Right _ (hX _ _ rfl) ?_
  refine Tells.prot fun Q' hQ => ?_
  unfold S_subs_Right
  simp [o.len]
  refine Tells.bind (Tells.loop (fun k t g => ∃ i m : Nat, t 0 = v ∧ t 3 = I m ∧ t 6 = v ∧ t 7 = I l.length ∧ t 8 = I i ∧ i + k = l.length ∧ (∀ j, j < i → okS l j = true) ∧ Mn l i m ∧ m ≤ 3 ∧ Ext [] h g)
    (Q := fun r g => ((r.1 = .exit 0 ∧ rightS l = true) ∨ (r.1 = .ret ∧ r.2 2 = .bool false ∧ rightS l = false)) ∧ Ext [] h g) ?_ l.length _ _ ⟨0, 0, by simp, by simp, by simp, by simp, by simp, by omega, by omega, Mn.zero _ _, by omega, .refl⟩) ?_
  · rintro k t g ⟨i, m, t0, t3, t6, t7, t8, hi, hok, hm, hm3, xg⟩
    refine Tells.prot fun Q2 hQ2 => ?_
    unfold L_subs_Right_1
    have og := o.ext xg
    simp [t7, t8]
    refine Tells.cb (fun hc => ?_) (fun hc => ?_)
    · simp at hc
      obtain ⟨s, hs⟩ : ∃ s, l[i]? = some s := ⟨_, List.getElem?_eq_getElem hc⟩
      obtain ⟨b1, p1, B1, c1, q1, q2, fv, rfl, of_, _⟩ := og.at (n := 4) rfl (i := (i : Int)) (by omega) (by simpa using hs)
      have w : IntKind.i64.wrap ((i : Int) + 1) = i + 1 := wrap_id (by omega) (by omega)
      have wm : IntKind.i64.wrap ((m : Int) + 1) = m + 1 := wrap_id (by omega) (by omega)
      have q4 := q2.lda (n := 4) rfl
      simp [J_subs_Right_2, t6, t8, q1, q4]
      refine Tells.newSt (ds := sxC s fv) (by rfl) (by rfl) (by rfl) (by simp [sxC, of_.one]) fun g1 bs os x1 l1 => ?_
      simp [os.1, sxC]
      refine Tells.bind (subs_may hX (s := s) (of_.ext x1) (sz s (List.mem_of_getElem? hs))) ?_
      rintro _ g2 ⟨rfl, x2⟩
      have os2 := os.e x2
      have og2 := (og.ext x1).ext x2
      have X2 := (xg.trans x1).trans x2
      cases e1 : mayB s with
      | false =>
        try simp
        exact Tells.ok (hQ2 _ _ (.inr ⟨by simp, .inr ⟨rfl, by simp, rightS_false hc (okS_may hs e1)⟩, X2⟩))
      | true =>
        have go : ∀ (m' : Nat), okS l i = mayB s → Mn l (i + 1) m' → m' ≤ 3 → ∀ t2 : T, t2 0 = v → t2 3 = I m' → t2 6 = v → t2 7 = I l.length → t2 8 = I ((i : Int) + 1) → Q2 (.normal, t2) g2 := fun m' ho hm' h3 t2 a0 a3 a6 a7 a8 => hQ2 _ _ (.inl ⟨rfl, k - 1, by omega, i + 1, m', a0, a3, a6, a7, a8, by omega, fun j hj => by
          by_cases q : j = i
          · subst q; rw [ho, e1]
          · exact hok j (by omega), hm', h3, X2⟩)
        have bad : okS l i = false → ∀ t2 : T, t2 2 = .bool false → Q2 (.ret, t2) g2 := fun ho t2 a2 => hQ2 _ _ (.inr ⟨by simp, .inr ⟨rfl, a2, rightS_false hc ho⟩, X2⟩)
        by_cases h0 : i = 0
        · subst h0
          obtain ⟨k1, k2⟩ := okS_one hs
          simp [J_subs_Right_4, J_subs_Right_3, t8]
          exact Tells.ok (go 1 k1 k2 (by omega) _ (by simp [t0]) (by simp) (by simp [t6]) (by simp [t7]) (by simp; rfl))
        · have h0' : ((i : Int) == 0) = false := beq_eq_false_iff_ne.2 (by omega)
          have hi0 : 0 < i := by omega
          obtain ⟨p, hp⟩ : ∃ p, l[i - 1]? = some p := ⟨_, List.getElem?_eq_getElem (by omega)⟩
          have w1 : IntKind.i64.wrap ((i : Int) - 1) = ((i - 1 : Nat) : Int) := by rw [wrap_id (by omega) (by omega)]; omega
          obtain ⟨b2, p2, B2, c2, r1, r2, fw, rfl, ow, _⟩ := og2.at (n := 4) rfl (i := ((i - 1 : Nat) : Int)) (by omega) (by simpa using hp)
          have r40 := r2.cell0 (by simp [sxC])
          have r41 := r2.cell (k := 1) (by simp [sxC])
          have r42 := r2.cell (k := 2) (by simp [sxC])
          simp [sxC] at r40 r41 r42
          by_cases c1 : p.c < s.c
          · obtain ⟨k1, k2⟩ := okS_up hm hi0 hs hp c1
            simp [J_subs_Right_4, h0', w1, t0, r1, r2.get, r40, os2.1, sxC, c1, J_subs_Right_3, t8, w]
            exact Tells.ok (go 1 k1 k2 (by omega) _ (by simp [t0]) (by simp) (by simp [t6]) (by simp [t7]) (by simp))
          · simp [J_subs_Right_4, h0', w1, t0, r1, r2.get, r40, os2.1, sxC, c1, J_subs_Right_5, t3, wm]
            by_cases c2 : s.c < p.c
            · have ob := okS_bad hm hi0 hs hp c1 (by omega)
              simp [c2, w1, t0, r1, r2.get, os2.1, sxC, r40]
              exact Tells.ok (bad ob _ (by simp))
            · by_cases c3 : p.n < s.n
              · have c3' : ¬ s.n ≤ p.n := by omega
                by_cases c4 : p.b = s.b
                · by_cases c5 : m + 1 ≤ 3
                  · have c5' : ¬ (3 : Int) < (m : Int) + 1 := by omega
                    have c5'' : ¬ 3 < m + 1 := by omega
                    obtain ⟨k1, k2⟩ := okS_eq hm hi0 hs hp (by omega) c3 c4 c5
                    simp [c2, c3', w1, t0, r1, r2.get, os2.1, sxC, t3, wm, r40, r41, r42, c4, c5', c5'', J_subs_Right_3, t8, w]
                    exact Tells.ok (go (m + 1) k1 k2 c5 _ (by simp [t0]) (by simp) (by simp [t6]) (by simp [t7]) (by simp))
                  · have c5' : (3 : Int) < (m : Int) + 1 := by omega
                    have c5'' : 3 < m + 1 := by omega
                    have ob := okS_bad hm hi0 hs hp c1 (by omega)
                    simp [c2, c3', w1, t0, r1, r2.get, os2.1, sxC, t3, wm, r40, r41, r42, c4, c5', c5'']
                    exact Tells.ok (bad ob _ (by simp))
                · have c4' : (p.b != s.b) = true := by simp [c4]
                  have ob := okS_bad hm hi0 hs hp c1 (by omega)
                  simp [c2, c3', w1, t0, r1, r2.get, os2.1, sxC, t3, wm, r40, r41, r42, c4']
                  exact Tells.ok (bad ob _ (by simp))
              · have c3' : s.n ≤ p.n := by omega
                have ob := okS_bad hm hi0 hs hp c1 (by omega)
                simp [c2, c3', w1, t0, r1, r2.get, os2.1, sxC, r40, r42]
                exact Tells.ok (bad ob _ (by simp))
    · simp at hc
      exact Tells.ok (hQ2 _ _ (.inr ⟨by simp, .inl ⟨rfl, rightS_true fun j hj => hok j (by omega)⟩, xg⟩))
  · rintro ⟨ex, t⟩ g ⟨⟨rfl, he⟩ | ⟨rfl, t2, he⟩, xg⟩
    · simp [J_subs_Right_0]
      exact Tells.ok (hQ _ _ ⟨by rw [he], xg⟩)
    · have t2 : t 2 = .bool false := t2
      simp [t2]
      exact Tells.ok (hQ _ _ ⟨by rw [he], xg⟩)
end
end Go.Proofs.Ytooeiefgnhgbeaa

/-! What precentorhand's Name, Pred, Filter tell. -/
namespace Go.Proofs.Ytooeiefgnhgbeaa
open Go.Ab

section
variable {X : XTab}

def names4 : List ByteArray := [bs [97], bs [98], bs [99], bs [108, 111, 110, 103]]
def texts4 : List ByteArray := [bs [], bs [97], bs [98], bs [97, 98]]

theorem NameH (hX : OnlyKnown X) {h : Heap} {bf k : Nat} (f : Feed h bf k) (hk : k < 2 ^ 61) :
    Tells (fun q => acallX Try.prog X q F_precentorhand_Feed_Name [.ptr bf 0] h) fun r h' => ∃ nm, r = .str nm ∧ nm ∈ names4 ∧ Ext [bf] h h' ∧ Feed h' bf (k + 1) := by
  refine R_precentorhand_Feed_Name _ (hX _ _ rfl) ?_
  refine Tells.prot fun Q' hQ => ?_
  unfold S_precentorhand_Feed_Name
  simp [bldR, fillR, splice]
  refine Tells.bind (Next hX 12 ⟨by decide, by decide⟩ f (by omega)) ?_
  rintro _ h1 ⟨r, rfl, r0, r1, _, x1, f1⟩
  have r1 := r1 (by decide)
  have : r = 0 ∨ r = 1 ∨ r = 2 ∨ r = 3 ∨ r = 4 ∨ r = 5 ∨ r = 6 ∨ r = 7 ∨ r = 8 ∨ r = 9 ∨ r = 10 ∨ r = 11 := by omega
  rcases this with rfl | rfl | rfl | rfl | rfl | rfl | rfl | rfl | rfl | rfl | rfl | rfl
  all_goals
    refine Tells.ok (hQ _ _ ⟨_, rfl, ?_, x1, f1⟩)
    simp [names4]

/-- The zero value. -/
def vlZ : Vl := ⟨0, 0, 0, bs [], false⟩
/-- A test that the feed tells. -/
def FedP (p : Prd) : Prop := p.name ∈ names4 ∧ ((p.test = 1 ∧ p.v = vlZ ∧ p.w = vlZ ∧ p.set = []) ∨ (p.test = 9 ∧ (∃ s, s ∈ texts4 ∧ p.v = ⟨3, 0, 0, s, false⟩) ∧ p.w = vlZ ∧ p.set = []) ∨
  (p.test = 10 ∧ p.v = vlZ ∧ p.w = vlZ ∧ 1 ≤ p.set.length ∧ p.set.length ≤ 4 ∧ ∀ x, x ∈ p.set → FedV x) ∨ (p.test = 8 ∧ FedV p.v ∧ FedV p.w ∧ p.set = []) ∨
  (2 ≤ p.test ∧ p.test ≤ 7 ∧ FedV p.v ∧ p.w = vlZ ∧ p.set = []))

theorem PredH (hX : OnlyKnown X) {h : Heap} {bf k : Nat} (f : Feed h bf k) (hk : k < 2 ^ 60) {nm : ByteArray} (hn : nm ∈ names4) :
    Tells (fun q => acallX Try.prog X q F_precentorhand_Feed_Pred [.ptr bf 0, .str nm] h) fun r h' => ∃ p sv, r = .agg (prC p sv) ∧ p.name = nm ∧ FedP p ∧ Sl vlR h' sv p.set ∧ Wr h h' sv ∧ Ext [bf] h h' ∧ Feed h' bf (k + 12) := by
  refine R_precentorhand_Feed_Pred _ _ (hX _ _ rfl) ?_
  refine Tells.prot fun Q' hQ => ?_
  unfold S_precentorhand_Feed_Pred
  try simp
  refine Tells.new fun h1 br or x1 l1 => ?_
  have hne1 : bf ≠ br := by have := f.lt; omega
  try simp
  refine Tells.bind (Next hX 10 ⟨by decide, by decide⟩ (f.e x1) (by omega)) ?_
  rintro _ h2 ⟨r, rfl, r0, r1, _, x2, f2⟩
  have r1 := r1 (by decide)
  have or2 := or.ext x2 (by simpa using hne1.symm)
  have w : IntKind.i64.wrap (1 + r) = 1 + r := wrap_id (by omega) (by omega)
  simp [bldR, fillR, splice, w]
  refine Tells.newSt (ds := prC ⟨nm, 1 + r, vlZ, vlZ, []⟩ .nils) (by rfl) (by rfl) (by rfl) (by rfl) fun h3 bp op x3 l3 => ?_
  have f3 := f2.e x3
  have or3 := or2.e x3
  have hne2 : bf ≠ bp := by have := f2.lt; omega
  have hne3 : br ≠ bp := by have := or2.lt; omega
  have ll : h.next ≤ br := l1
  have lp : h.next ≤ bp := by have := x1.next; have := x2.next; omega
  have x03 : Ext [bf] h h3 := (x1.of.trans x2).quiet x3
  -- how each way ends
  have fin : ∀ (g : Heap) (p : Prd) (sv : AVal) (K : Nat), K ≤ k + 12 → FedP p → p.name = nm → Ob g bp (prC p sv) → Ob g br [.str (bs []), I 0, I 0, I 0, .flt .f64 0, .str (bs []), .bool false, I 0, I 0, .flt .f64 0, .str (bs []), .bool false, .nils] → Sl vlR g sv p.set → Wr h g sv → Ext [bf] h g → Feed g bf K →
      ∀ (t : T), t 4 = .ptr br 0 → t 5 = .ptr bp 0 → ∀ ty, (∀ h a, aLoad Try.prog h ty a = ldn 13 h a) →
      (Tells (fun m => J_precentorhand_Feed_Pred_1 Try.prog (acallX Try.prog X m) m (retK Try.prog [.cell 4 ty]) t g) Q' ∧
       Tells (fun m => J_precentorhand_Feed_Pred_2 Try.prog (acallX Try.prog X m) m (blkK 0 (sqK (J_precentorhand_Feed_Pred_0 Try.prog (acallX Try.prog X m) m (retK Try.prog [.cell 4 ty])) (retK Try.prog [.cell 4 ty]))) t g) Q') := by
    intro g p sv K hK hp hpn o o' os ws x f t t4 t5 ty hty
    have main : ∀ (h' : Heap), Ob h' br (prC p sv) → Ext [br] g h' → Q' (.agg (prC p sv)) h' := fun h' o2 x2 => hQ _ _ ⟨p, sv, rfl, hpn, hp, os.ext x2, ws.ext x2, x.then x2 fun z hz => .inr (by simp at hz; omega), (f.ext x2 (by simpa using hne1)).mono hK⟩
    constructor
    · simp [J_precentorhand_Feed_Pred_1, t5, t4, o.1]
      refine Tells.stN o' (ds := prC p sv) (by rfl) (by rfl) (by simp [prC, vlC, os.one]) (by rfl) fun h' o2 x2 => ?_
      simp [t4, hty, o2.1, prC, vlC]
      exact Tells.ok (main h' o2 x2)
    · simp [J_precentorhand_Feed_Pred_2, t5, t4, o.1]
      refine Tells.stN o' (ds := prC p sv) (by rfl) (by rfl) (by simp [prC, vlC, os.one]) (by rfl) fun h' o2 x2 => ?_
      simp [t4, hty, o2.1, prC, vlC]
      exact Tells.ok (main h' o2 x2)
  have outS : ∀ (g : Heap) (p : Prd) (K : Nat), K ≤ k + 12 → FedP p → p.name = nm → p.set = [] → Ext [bf] h g → Feed g bf K → ∀ (h' : Heap), Ob h' br (prC p .nils) → Ext [br] g h' → Q' (.agg (prC p .nils)) h' := fun g p K hK hp hpn hs x f h' o2 x2 => hQ _ _ ⟨p, .nils, rfl, hpn, hp, by rw [hs]; exact Sl.nil, fun b hb => by simp [AVal.blks] at hb, x.then x2 fun z hz => .inr (by simp at hz; omega), (f.ext x2 (by simpa using hne1)).mono hK⟩
  by_cases c1 : r = 0
  · subst c1
    simp [prC, vlC, vlZ, op.1]
    refine Tells.stN or3 (ds := prC ⟨nm, 1, vlZ, vlZ, []⟩ .nils) (by rfl) (by rfl) (by rfl) (by rfl) fun h4 o4 x4 => ?_
    simp [C_precentorhand_Feed_Pred_0, o4.1, prC, vlC, vlZ]
    exact Tells.ok (outS h3 ⟨nm, 1, vlZ, vlZ, []⟩ _ (by omega) ⟨hn, .inl ⟨rfl, rfl, rfl, rfl⟩⟩ rfl rfl x03 f3 h4 o4 x4)
  · have e1 : (1 + r == 1) = false := beq_eq_false_iff_ne.2 (by omega)
    by_cases c2 : r = 8
    · subst c2
      simp [prC, vlC, vlZ, op.1]
      refine Tells.bind (Next hX 4 ⟨by decide, by decide⟩ f3 (by omega)) ?_
      rintro _ h4 ⟨u, rfl, u0, u1, _, x4, f4⟩
      have u1 := u1 (by decide)
      have op4 := op.ext x4 (by simpa using hne2.symm)
      have or4 := or3.ext x4 (by simpa using hne1.symm)
      obtain ⟨s, hs, hs2⟩ : ∃ s, s ∈ texts4 ∧ ixa1 4 1 (.agg [.str (bs []), .str (bs [97]), .str (bs [98]), .str (bs [97, 98])]) (I u) = some (.str s) := by
        have : u = 0 ∨ u = 1 ∨ u = 2 ∨ u = 3 := by omega
        rcases this with rfl | rfl | rfl | rfl
        · exact ⟨bs [], by simp [texts4], by rfl⟩
        · exact ⟨bs [97], by simp [texts4], by rfl⟩
        · exact ⟨bs [98], by simp [texts4], by rfl⟩
        · exact ⟨bs [97, 98], by simp [texts4], by rfl⟩
      simp [hs2, bldR, fillR, splice]
      refine Tells.st op4 (by rfl) (by rfl) (by simp [prC, vlC]) fun h5 op5 x5 => ?_
      have op5 : Ob h5 bp (prC ⟨nm, 9, ⟨3, 0, 0, s, false⟩, vlZ, []⟩ .nils) := by simpa [prC, vlC, vlZ, splice] using op5
      have or5 := or4.ext x5 (by simpa using hne3)
      have f5 := f4.ext x5 (by simpa using hne2)
      simp [prC, vlC, vlZ, op5.1]
      refine Tells.stN or5 (ds := prC ⟨nm, 9, ⟨3, 0, 0, s, false⟩, vlZ, []⟩ .nils) (by rfl) (by rfl) (by rfl) (by rfl) fun h6 o6 x6 => ?_
      simp [C_precentorhand_Feed_Pred_0, o6.1, prC, vlC, vlZ]
      have x05 : Ext [bf] h h5 := (x03.trans x4).then x5 fun z hz => .inr (by simp at hz; omega)
      exact Tells.ok (outS h5 ⟨nm, 9, ⟨3, 0, 0, s, false⟩, vlZ, []⟩ _ (by omega) ⟨hn, .inr (.inl ⟨rfl, ⟨s, hs, rfl⟩, rfl, rfl⟩)⟩ rfl rfl x05 f5 h6 o6 x6)
    · have e2 : (1 + r == 9) = false := beq_eq_false_iff_ne.2 (by omega)
      by_cases c3 : r = 9
      · subst c3
        simp [prC, vlC, vlZ, op.1]
        refine Tells.bind (Next hX 4 ⟨by decide, by decide⟩ f3 (by omega)) ?_
        rintro _ h4 ⟨u, rfl, u0, u1, _, x4, f4⟩
        have u1 := u1 (by decide)
        obtain ⟨u, rfl⟩ : ∃ n : Nat, u = n := ⟨u.toNat, by omega⟩
        have op4 := op.ext x4 (by simpa using hne2.symm)
        have or4 := or3.ext x4 (by simpa using hne1.symm)
        try simp
        refine Tells.bind (Tells.loop (fun n t g => ∃ (i : Nat) (sv : AVal) (set : List Vl), t 0 = .ptr bf 0 ∧ t 4 = .ptr br 0 ∧ t 5 = .ptr bp 0 ∧ t 6 = I ((u : Int) - i) ∧ i + n = u + 1 ∧ set.length = i ∧ (∀ x, x ∈ set → FedV x) ∧ Ob g bp (prC ⟨nm, 10, vlZ, vlZ, set⟩ sv) ∧ Ob g br [.str (bs []), I 0, I 0, I 0, .flt .f64 0, .str (bs []), .bool false, I 0, I 0, .flt .f64 0, .str (bs []), .bool false, .nils] ∧ Gl vlR h4 g sv set ∧ Wr h4 g sv ∧ Feed g bf (k + 2 + 2 * i) ∧ Ext [bf, bp] h4 g)
          (Q := fun p g => p.1 = .exit 1 ∧ p.2 4 = .ptr br 0 ∧ p.2 5 = .ptr bp 0 ∧ ∃ (sv : AVal) (set : List Vl), set.length = u + 1 ∧ (∀ x, x ∈ set → FedV x) ∧ Ob g bp (prC ⟨nm, 10, vlZ, vlZ, set⟩ sv) ∧ Ob g br [.str (bs []), I 0, I 0, I 0, .flt .f64 0, .str (bs []), .bool false, I 0, I 0, .flt .f64 0, .str (bs []), .bool false, .nils] ∧ Sl vlR g sv set ∧ Wr h4 g sv ∧ Feed g bf (k + 12) ∧ Ext [bf, bp] h4 g) ?_ (u + 1) _ _ ?_) ?_
        · rintro n t g ⟨i, sv, set, t0, t4, t5, t6, hi, hl, hf, po, ro, gs, ws, fg, xg⟩
          refine Tells.prot fun Q2 hQ2 => ?_
          unfold L_precentorhand_Feed_Pred_3
          have wu : IntKind.i64.wrap ((u : Int) - i - 1) = (u : Int) - i - 1 := wrap_id (by omega) (by omega)
          by_cases hc : i ≤ u
          · have hc' : (0 : Int) ≤ (u : Int) - i := by omega
            have hc2 : (i : Int) ≤ u := by omega
            simp [t6, hc', hc2, J_precentorhand_Feed_Pred_4, t5, t0, po.1, prC, vlC]
            refine Tells.cbE (ValueH hX fg (by omega)) ?_
            rintro _ g1 ⟨x, rfl, hx, x1', f1'⟩
            have po1 := po.ext x1' (by simpa using hne2.symm)
            have ro1 := ro.ext x1' (by simpa using hne1.symm)
            have gs1 := gs.ext x1' (fun b hb q => by simp at q; subst q; have := (gs.1.blk _ hb).1; rw [fg.m] at this; cases this)
            have ws1 := ws.ext x1'
            simp [po1.1, prC, vlC]
            refine Tells.app1WE gs1 ws1 (by rfl) (by rfl) (show vlR.rep g1 (vlC x) x from rfl) (by rfl) (by rfl) (by omega) (by decide) (by have := xg.next; have := x1'.next; omega) fun s3 h3' g3 w3 x3' y3 z3 => ?_
            have po3 := po1.ext x3' (gs1.1.ob po1)
            have ro3 := ro1.ext x3' (gs1.1.ob ro1)
            have f3' := f1'.ext x3' (fun q => by have := (gs1.1.blk _ q).1; rw [f1'.m] at this; cases this)
            try simp
            refine Tells.st1E po3 g3.1.cells g3.1.one (by simp [prC, vlC]) fun h4' po4 x4' => ?_
            have po4 : Ob h4' bp (prC ⟨nm, 10, vlZ, vlZ, set ++ [x]⟩ s3) := by simpa [prC, vlC, vlZ] using po4
            have ro4 := ro3.ext x4' (by simpa using hne3)
            have f4' := f3'.ext x4' (by simpa using hne2)
            simp [J_precentorhand_Feed_Pred_5, t6, wu]
            refine Tells.ok (hQ2 _ _ (.inl ⟨rfl, n - 1, by omega, i + 1, s3, set ++ [x], by simp [t0], by simp [t4], by simp [t5], by simp; omega, by omega, by simp; omega, ?_, po4, ro4, g3.extO x4' (by simpa using .inl po3.2.1), w3.ext x4', f4'.mono (by omega), ?_⟩))
            · intro z hz
              rcases List.mem_append.1 hz with q | q
              · exact hf z q
              · simp at q; subst q; exact hx
            · have x5 := y3 [bf, bp] (xg.trans (x1'.mono (by simp)))
              exact x5.trans (x4'.mono (by simp))
          · have hc' : ¬ (0 : Int) ≤ (u : Int) - i := by omega
            have hc2 : ¬ (i : Int) ≤ u := by omega
            simp [t6, hc', hc2]
            exact Tells.ok (hQ2 _ _ (.inr ⟨by simp, rfl, by simp [t4], by simp [t5], sv, set, by omega, hf, po, ro, gs.1, ws, fg.mono (by omega), xg⟩))
        · exact ⟨0, .nils, [], by simp, by simp, by simp, by simp, by omega, rfl, by simp, by simpa [prC, vlC, vlZ] using op4, or4, Gl.nil, fun b hb => by simp [AVal.blks] at hb, by simpa using f4, .refl⟩
        · rintro ⟨ex, t⟩ g ⟨rfl, t4, t5, sv, set, hl, hf, po, ro, gs, ws, fg, xg⟩
          refine (fin g ⟨nm, 10, vlZ, vlZ, set⟩ sv (k + 12) (Nat.le_refl _) ⟨hn, .inr (.inr (.inl ⟨rfl, rfl, rfl, by show 1 ≤ set.length; omega, by show set.length ≤ 4; omega, hf⟩))⟩ rfl po ro gs (ws.back (by have := x03.next; have := x4.next; omega)) ?_ fg t t4 t5 _ C_precentorhand_Feed_Pred_0).2
          exact (x03.trans x4).then xg fun z hz => by simp at hz; rcases hz with rfl | rfl; exact .inl (by simp); exact .inr lp
      · have e3 : (1 + r == 10) = false := beq_eq_false_iff_ne.2 (by omega)
        simp [prC, vlC, vlZ, op.1, e1, e2, e3, J_precentorhand_Feed_Pred_0]
        refine Tells.bind (ValueH hX f3 (by omega)) ?_
        rintro _ h4 ⟨x, rfl, hx, x4, f4⟩
        have op4 := op.ext x4 (by simpa using hne2.symm)
        have or4 := or3.ext x4 (by simpa using hne1.symm)
        try simp
        refine Tells.st op4 (by rfl) (by rfl) (by simp [prC, vlC]) fun h5 op5 x5 => ?_
        have op5 : Ob h5 bp (prC ⟨nm, 1 + r, x, vlZ, []⟩ .nils) := by simpa [prC, vlC, vlZ, splice] using op5
        have or5 := or4.ext x5 (by simpa using hne3)
        have f5 := f4.ext x5 (by simpa using hne2)
        have x05 : Ext [bf] h h5 := (x03.trans x4).then x5 fun z hz => .inr (by simp at hz; omega)
        by_cases c4 : r = 7
        · subst c4
          simp [prC, vlC, vlZ, op5.1]
          refine Tells.bind (ValueH hX f5 (by omega)) ?_
          rintro _ h6 ⟨y, rfl, hy, x6, f6⟩
          have op6 := op5.ext x6 (by simpa using hne2.symm)
          have or6 := or5.ext x6 (by simpa using hne1.symm)
          try simp
          refine Tells.st op6 (by rfl) (by rfl) (by simp [prC, vlC]) fun h7 op7 x7 => ?_
          have op7 : Ob h7 bp (prC ⟨nm, 8, x, y, []⟩ .nils) := by simpa [prC, vlC, vlZ, splice] using op7
          have or7 := or6.ext x7 (by simpa using hne3)
          have f7 := f6.ext x7 (by simpa using hne2)
          have x07 : Ext [bf] h h7 := (x05.trans x6).then x7 fun z hz => .inr (by simp at hz; omega)
          exact (fin h7 ⟨nm, 8, x, y, []⟩ .nils _ (by omega) ⟨hn, .inr (.inr (.inr (.inl ⟨rfl, hx, hy, rfl⟩)))⟩ rfl op7 or7 Sl.nil (fun b hb => by simp [AVal.blks] at hb) x07 f7 _ (by simp) (by simp) _ C_precentorhand_Feed_Pred_0).1
        · have e4 : (1 + r == 8) = false := beq_eq_false_iff_ne.2 (by omega)
          simp [prC, vlC, vlZ, op5.1, e4]
          exact (fin h5 ⟨nm, 1 + r, x, vlZ, []⟩ .nils _ (by omega) ⟨hn, .inr (.inr (.inr (.inr ⟨by show 2 ≤ 1 + r; omega, by show 1 + r ≤ 7; omega, hx, rfl, rfl⟩)))⟩ rfl op5 or5 Sl.nil (fun b hb => by simp [AVal.blks] at hb) x05 f5 _ (by simp) (by simp) _ C_precentorhand_Feed_Pred_0).1
end
end Go.Proofs.Ytooeiefgnhgbeaa

/-! A feed lives through a write into a row. -/
namespace Go.Proofs.Ytooeiefgnhgbeaa
open Go.Ab
theorem Feed.extCX {b : Nat} {h h' : Heap} {bf k : Nat} (f : Feed h bf k) (x : ExtC b h h') (hm : h.isM b = false) (hn : h.n0 ≤ b) : Feed h' bf k := by
  obtain ⟨L, a, xs, h1, h2, h3, h4, h5, h6⟩ := f
  have ap : Apart h b L := fun c hc => by
    have := h6 c hc
    refine ⟨by omega, fun r _ q => ?_⟩
    have := Heap.cls_eq q
    omega
  exact ⟨L, a, xs, h1.extC x hm, h2, h3, h4.extC (fun q => q) x ap, h5, by rw [x.n0]; exact h6⟩
end Go.Proofs.Ytooeiefgnhgbeaa
