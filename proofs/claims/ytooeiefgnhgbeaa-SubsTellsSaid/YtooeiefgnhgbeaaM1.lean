/-
  Texts of a claim, merged: Subs1, Subs2, RigM, RigS, SM0, RefPut, ST0.
-/
import Derived.Test.YtooeiefgnhgbeaaM0
import Derived.Test.YtooeiefgnhgbeaaSsubs
import Derived.Test.YtooeiefgnhgbeaaSprecentorref9
import Derived.Test.YtooeiefgnhgbeaaB2
set_option linter.unusedVariables false
set_option linter.unusedSimpArgs false
/-! What subs' clone, copies, gone, come tell. -/
namespace Go.Proofs.Ytooeiefgnhgbeaa
open Go.Ab

/-- Not too much. -/
def SzF (fl : List Prd) : Prop := fl.length ≤ 1000 ∧ ∀ p, p ∈ fl → p.set.length ≤ 1000
def SzS (l : List Sx) : Prop := l.length ≤ 1000 ∧ ∀ s, s ∈ l → SzF s.fl

def sameK (c n : Int) (x : Sx) : Bool := x.c == c && x.n == n
def ltK (c n : Int) (x : Sx) : Bool := decide (x.c < c) || (x.c == c && decide (x.n < n))
/-- The first of that client and number is another one. -/
def setF (s : Sx) : List Sx → List Sx
  | [] => []
  | x :: r => if sameK s.c s.n x = true then s :: r else x :: setF s r
def insB (s : Sx) : List Sx → List Sx
  | [] => [s]
  | x :: r => if ltK s.c s.n x = true then x :: insB s r else s :: x :: r
def comeL (l : List Sx) (s : Sx) : List Sx := if l.any (sameK s.c s.n) = true then setF s l else insB s l
def goneL (l : List Sx) (c n : Int) : List Sx := l.filter fun x => !sameK c n x
def appL (l : List Sx) (g : Cg) : List Sx := if g.gone = true then goneL l g.s.c g.s.n else comeL l g.s

theorem setF_at {s x : Sx} : ∀ {l : List Sx} {i : Nat}, (∀ y, y ∈ l.take i → sameK s.c s.n y = false) → l[i]? = some x → sameK s.c s.n x = true → setF s l = l.set i s
  | [], i, _, h, _ => by simp at h
  | y :: r, 0, _, h, hx => by
    simp at h
    subst h
    simp [setF, hx]
  | y :: r, i + 1, hn, h, hx => by
    have hy := hn y (by simp)
    simp [setF, hy]
    exact setF_at (fun z hz => hn z (by simp [hz])) (by simpa using h) hx
theorem insB_at {s : Sx} : ∀ {l : List Sx} {i : Nat}, i ≤ l.length → (∀ y, y ∈ l.take i → ltK s.c s.n y = true) → (∀ x, l[i]? = some x → ltK s.c s.n x = false) → insB s l = l.take i ++ s :: l.drop i
  | [], i, h, _, _ => by
    have : i = 0 := by simpa using h
    subst this
    rfl
  | y :: r, 0, _, _, h => by
    have := h y (by simp)
    simp [insB, this]
  | y :: r, i + 1, hl, hn, h => by
    have hy := hn y (by simp)
    simp [insB, hy]
    exact insB_at (by simpa using hl) (fun z hz => hn z (by simp [hz])) (fun x hx => h x (by simpa using hx))
theorem any_take {α : Type} {p : α → Bool} {l : List α} {i : Nat} (h : ∀ y, y ∈ l.take i → p y = false) (hi : l.length ≤ i) : l.any p = false := by
  rw [List.take_of_length_le hi] at h
  rw [List.any_eq_false]
  intro x hx
  simp [h x hx]

section
variable {X : XTab}

theorem subs_clone (hX : OnlyKnown X) {h : Heap} {fv : AVal} {s : Sx} {Z : Nat → Prop} (o : Sl (prZ Z) h fv s.fl) (sz : SzF s.fl) :
    Tells (fun q => acallX Try.prog X q F_subs_clone [.agg (sxC s fv)] h) fun r h' => ∃ v, r = .agg (sxC s v) ∧ RowZ prF h.next h h' v s.fl ∧ Ext [] h h' := by
  refine R_subs_clone _ (hX _ _ rfl) ?_
  refine Tells.prot fun Q' hQ => ?_
  unfold S_subs_clone
  simp [sxC]
  refine Tells.box rfl rfl fun h1 bs o1 x1 l1 => ?_
  have o1 : Ob h1 bs (sxC s fv) := o1
  try simp
  refine Tells.new fun h2 br o2 x2 l2 => ?_
  have o12 := o1.e x2
  have ne : bs ≠ br := by have := o1.lt; omega
  simp [o12.1, sxC]
  refine Tells.bind (filter_Copy hX ((o.ext x1).ext x2) sz.1 sz.2) ?_
  rintro v h3 ⟨rv, x3⟩
  have o13 := o12.e x3
  have o23 := o2.e x3
  try simp
  refine Tells.st1 o13 rv.2.1.cells rv.2.1.one (by simp [sxC]) fun h4 o14 x4 => ?_
  have o14 : Ob h4 bs (sxC s v) := by simpa [sxC] using o14
  have o24 := o23.ext x4 (by simpa using ne.symm)
  simp [o14.1, sxC]
  refine Tells.stN o24 (ds := sxC s v) (by rfl) (by rfl) (by simp [sxC, rv.2.1.one]) (by rfl) fun h5 o5 x5 => ?_
  have n1 := x1.next
  have n2 := x2.next
  have n3 := x3.next
  simp [C_subs_clone_0, o5.1, sxC]
  refine Tells.ok (hQ _ _ ⟨v, rfl, ((rv.low (by omega)).back (by omega)).extO x4 (by simpa using .inl o13.2.1) |>.extO x5 (by simpa using .inl o24.2.1), ?_⟩)
  have x14 : Ext [] h h4 := (((x1.trans x2).trans x3).then x4 fun z hz => .inr (by simp at hz; omega))
  exact x14.then x5 fun z hz => .inr (by simp at hz; omega)

/-- A new row's rows are of no class of an older one. -/
theorem fresh_sx {h0 g1 g2 : Heap} {s v : AVal} {x : Sx} {l : List Sx} {K : Nat} (rz : RowZ sxF K h0 g1 s l) (rv : RowZ prF g1.next g1 g2 v x.fl) (x2 : Ext [] g1 g2) (hk : K ≤ g1.next) : (sxF.r fun q => ¬ g2.isRoot s q ∧ K ≤ q).rep g2 (sxC x v) x := by
  have key : ∀ q, g1.next ≤ q → ¬ g2.isRoot s q ∧ K ≤ q := fun q hq => ⟨by
    rintro ⟨b, hb, rfl⟩
    have := root_le g2 b
    have := (rz.1 b hb).2.2
    omega, by omega⟩
  exact ⟨v, rfl, rv.2.1.fam prF fun q _ z => key q z.2, fun c hc => key _ (rv.1 c hc).1⟩

theorem subs_copies (hX : OnlyKnown X) {h : Heap} {v : AVal} {l : List Sx} {Z : Nat → Prop} (o : Sl (sxZ Z) h v l) (sz : SzS l) :
    Tells (fun q => acallX Try.prog X q F_subs_copies [v] h) fun r h' => RowZ sxF h.next h h' r l ∧ Ext [] h h' := by
  refine R_subs_copies _ (hX _ _ rfl) ?_
  refine Tells.prot fun Q' hQ => ?_
  unfold S_subs_copies
  simp [o.len]
  refine Tells.bind (Tells.loop (fun n t g => ∃ i : Nat, t 6 = v ∧ t 7 = I l.length ∧ t 8 = I i ∧ i + n = l.length ∧ RowZ sxF h.next h g (t 3) (l.take i) ∧ Ext [] h g)
    (Q := fun p g => p.1 = .exit 0 ∧ RowZ sxF h.next h g (p.2 3) l ∧ Ext [] h g) ?_ l.length _ _ ⟨0, by simp, by simp, by simp, by omega, by simpa using RowZ.nil, .refl⟩) ?_
  · rintro n t g ⟨i, t6, t7, t8, hi, rz, xg⟩
    refine Tells.prot fun Q2 hQ2 => ?_
    unfold L_subs_copies_1
    have og := o.ext xg
    have hl := sz.1
    simp [t7, t8]
    refine Tells.cb (fun hc => ?_) (fun hc => ?_)
    · simp at hc
      obtain ⟨s, hs⟩ : ∃ s, l[i]? = some s := ⟨_, List.getElem?_eq_getElem hc⟩
      obtain ⟨b, q, B, c, q1, q2, fv, rfl, of_, _⟩ := og.at (n := 4) rfl (i := (i : Int)) (by omega) (by simpa using hs)
      have w : IntKind.i64.wrap ((i : Int) + 1) = i + 1 := wrap_id (by omega) (by omega)
      have q4 := q2.lda (n := 4) rfl
      have tk : l.take (i + 1) = l.take i ++ [s] := by rw [List.take_add_one, hs]; rfl
      simp [J_subs_copies_2, t6, t8, q1, q4]
      refine Tells.newSt (ds := sxC s fv) (by rfl) (by rfl) (by rfl) (by simp [sxC, of_.one]) fun g1 bp op x1 l1 => ?_
      have rz1 := rz.e x1
      have ng := xg.next
      have n1 := x1.next
      simp [op.1, sxC]
      refine Tells.bind (subs_clone hX (s := s) (of_.ext x1) (sz.2 s (List.mem_of_getElem? hs))) ?_
      rintro _ g2 ⟨v2, rfl, rv, x2⟩
      have n2 := x2.next
      simp [sxC]
      refine Tells.appZ (rz1.e x2) (by rfl) (by rfl) (x := s) (c := sxC s v2) (fresh_sx rz1 rv x2 (by omega)) (by rfl) (by rfl) (by simp; omega) (by decide) (by omega) fun s4 g4 rz4 x4 y4 => ?_
      simp [J_subs_copies_3, t8, w]
      exact Tells.ok (hQ2 _ _ (.inl ⟨rfl, n - 1, by omega, i + 1, by simp [t6], by simp [t7], by simp, by omega, by rw [tk]; simpa using rz4, y4 [] ((xg.trans x1).trans x2)⟩))
    · simp at hc
      have hfl : l.take i = l := List.take_of_length_le (by omega)
      rw [hfl] at rz
      exact Tells.ok (hQ2 _ _ (.inr ⟨by simp, rfl, by simpa using rz, xg⟩))
  · rintro ⟨ex, t⟩ g ⟨rfl, rz, xg⟩
    simp [J_subs_copies_0]
    exact Tells.ok (hQ _ _ ⟨by simpa using rz, xg⟩)

theorem subs_gone (hX : OnlyKnown X) {h : Heap} {v : AVal} {l : List Sx} {K : Nat} {Z : Nat → Prop} (o : Sl (sxZ Z) h v l) (hz : ∀ q, q < h.next → Z q → K ≤ q) (hl : l.length ≤ 1000) (cl nu : Int) :
    Tells (fun q => acallX Try.prog X q F_subs_gone [v, I cl, I nu] h) fun r h' => RowZ sxF K h h' r (goneL l cl nu) ∧ Ext [] h h' := by
  refine R_subs_gone _ _ _ (hX _ _ rfl) ?_
  refine Tells.prot fun Q' hQ => ?_
  unfold S_subs_gone
  have o1 : Sl (sxZ fun q => K ≤ q ∧ q < h.next) h v l := o.fam sxF fun q hq k => ⟨hz q hq k, hq⟩
  simp [o.len]
  refine Tells.bind (Tells.loop (fun n t g => ∃ i : Nat, t 1 = I cl ∧ t 2 = I nu ∧ t 10 = v ∧ t 11 = I l.length ∧ t 12 = I i ∧ i + n = l.length ∧ RowZ sxF K h g (t 7) (goneL (l.take i) cl nu) ∧ Ext [] h g)
    (Q := fun p g => p.1 = .exit 0 ∧ RowZ sxF K h g (p.2 7) (goneL l cl nu) ∧ Ext [] h g) ?_ l.length _ _ ⟨0, by simp, by simp, by simp, by simp, by simp, by omega, by simpa [goneL] using RowZ.nil, .refl⟩) ?_
  · rintro n t g ⟨i, t1, t2, t10, t11, t12, hi, rz, xg⟩
    refine Tells.prot fun Q2 hQ2 => ?_
    unfold L_subs_gone_1
    have og := o1.ext xg
    simp [t11, t12]
    refine Tells.cb (fun hc => ?_) (fun hc => ?_)
    · simp at hc
      obtain ⟨s, hs⟩ : ∃ s, l[i]? = some s := ⟨_, List.getElem?_eq_getElem hc⟩
      obtain ⟨b, q, B, c, q1, q2, fv, rfl, of_, zf⟩ := og.at (n := 4) rfl (i := (i : Int)) (by omega) (by simpa using hs)
      have w : IntKind.i64.wrap ((i : Int) + 1) = i + 1 := wrap_id (by omega) (by omega)
      have q4 := q2.lda (n := 4) rfl
      have tk : goneL (l.take (i + 1)) cl nu = goneL (l.take i) cl nu ++ (if sameK cl nu s = true then [] else [s]) := by
        rw [List.take_add_one, hs]
        unfold goneL
        rw [List.filter_append]
        congr 1
        cases hk : sameK cl nu s <;> simp [hk]
      have len2 : (goneL (l.take i) cl nu).length ≤ l.length := by
        refine Nat.le_trans (List.length_filter_le _ _) ?_
        simp; omega
      simp [J_subs_gone_2, t10, t12, q1, q4]
      refine Tells.newSt (ds := sxC s fv) (by rfl) (by rfl) (by rfl) (by simp [sxC, of_.one]) fun g1 bp op x1 l1 => ?_
      have rz1 := rz.e x1
      have ng := xg.next
      have n1 := x1.next
      have nx : ∀ t' : T, t' 1 = I cl → t' 2 = I nu → t' 10 = v → t' 11 = I l.length → t' 12 = I i → t' 7 = t 7 → sameK cl nu s = true →
          Tells (fun m => J_subs_gone_3 Try.prog (acallX Try.prog X m) m okK t' g1) Q2 := fun t' a1 a2 a10 a11 a12 a7 e => by
        simp [J_subs_gone_3, a12, w]
        exact Tells.ok (hQ2 _ _ (.inl ⟨rfl, n - 1, by omega, i + 1, by simp [a1], by simp [a2], by simp [a10], by simp [a11], by simp, by omega, by rw [tk, if_pos e]; simpa [a7] using rz1, xg.trans x1⟩))
      have put : ∀ t' : T, t' 1 = I cl → t' 2 = I nu → t' 10 = v → t' 11 = I l.length → t' 12 = I i → sameK cl nu s = false → ∀ s4 g4, RowZ sxF K h g4 s4 (goneL (l.take i) cl nu ++ [s]) → Ext [] h g4 → t' 7 = s4 →
          Tells (fun m => J_subs_gone_3 Try.prog (acallX Try.prog X m) m okK t' g4) Q2 := fun t' a1 a2 a10 a11 a12 e s4 g4 rz4 x4 a7 => by
        simp [J_subs_gone_3, a12, w]
        exact Tells.ok (hQ2 _ _ (.inl ⟨rfl, n - 1, by omega, i + 1, by simp [a1], by simp [a2], by simp [a10], by simp [a11], by simp, by omega, by rw [tk, if_neg (by simp [e])]; simpa [a7] using rz4, x4⟩))
      have rep : (sxF.r fun q => ¬ g1.isRoot (t 7) q ∧ K ≤ q).rep g1 (sxC s fv) s := by
        have r0 : (sxZ fun q => K ≤ q ∧ q < h.next).rep g (sxC s fv) s := ⟨fv, rfl, of_, zf⟩
        refine sxF.mono (fun q _ z => ⟨?_, z.1⟩) (Rp.ext _ r0 x1)
        rintro ⟨b, hb, rfl⟩
        have := (rz1.1 b hb).1
        omega
      by_cases c1 : s.c = cl
      · subst c1
        by_cases c2 : s.n = nu
        · have e : sameK s.c nu s = true := by simp [sameK, c2]
          simp [op.1, sxC, t1, t2, c2]
          exact nx _ (by simp [t1]) (by simp [t2]) (by simp [t10]) (by simp [t11]) (by simp [t12]) (by simp) e
        · have e : sameK s.c nu s = false := by simp [sameK, c2]
          have e2 : (s.n != nu) = true := by simp [c2]
          simp [op.1, sxC, t1, t2, e2]
          refine Tells.appZ rz1 (by rfl) (by rfl) (x := s) (c := sxC s fv) rep (by rfl) (by rfl) (by omega) (by decide) (by omega) fun s4 g4 rz4 x4 y4 => ?_
          exact put _ (by simp [t1]) (by simp [t2]) (by simp [t10]) (by simp [t11]) (by simp [t12]) e s4 g4 rz4 (y4 [] (xg.trans x1)) (by simp)
      · have e : sameK cl nu s = false := by simp [sameK, c1]
        have e2 : (s.c != cl) = true := by simp [c1]
        simp [op.1, sxC, t1, t2, e2]
        refine Tells.appZ rz1 (by rfl) (by rfl) (x := s) (c := sxC s fv) rep (by rfl) (by rfl) (by omega) (by decide) (by omega) fun s4 g4 rz4 x4 y4 => ?_
        exact put _ (by simp [t1]) (by simp [t2]) (by simp [t10]) (by simp [t11]) (by simp [t12]) e s4 g4 rz4 (y4 [] (xg.trans x1)) (by simp)
    · simp at hc
      have hfl : l.take i = l := List.take_of_length_le (by omega)
      rw [hfl] at rz
      exact Tells.ok (hQ2 _ _ (.inr ⟨by simp, rfl, by simpa using rz, xg⟩))
  · rintro ⟨ex, t⟩ g ⟨rfl, rz, xg⟩
    simp [J_subs_gone_0]
    exact Tells.ok (hQ _ _ ⟨by simpa using rz, xg⟩)
end
end Go.Proofs.Ytooeiefgnhgbeaa

/-! What subs' come, Apply, Of, Has tell. -/
namespace Go.Proofs.Ytooeiefgnhgbeaa
open Go.Ab

section
variable {X : XTab}

theorem subs_come (hX : OnlyKnown X) {hA h : Heap} {v fv : AVal} {l : List Sx} {s : Sx} {K : Nat} (rz : RowZ sxF K hA h v l) (rs : (sxF.r fun q => ¬ h.isRoot v q ∧ K ≤ q).rep h (sxC s fv) s) (hl : l.length ≤ 1000) (hA' : hA.next ≤ h.next) :
    Tells (fun q => acallX Try.prog X q F_subs_come [v, .agg (sxC s fv)] h) fun r h' => RowZ sxF K hA h' r (comeL l s) ∧ (∀ S, Ext S hA h → Ext S hA h') := by
  refine R_subs_come _ _ (hX _ _ rfl) ?_
  refine Tells.prot fun Q' hQ => ?_
  have fk : fv.one = true ∧ fv.known = true ∧ fv.cells = [fv] := by
    obtain ⟨fv', e, o, _⟩ := rs
    have : fv = fv' := by simp [sxC] at e; exact e
    subst this
    exact ⟨o.one, o.known, o.cells⟩
  unfold S_subs_come
  simp [sxC]
  refine Tells.box rfl rfl fun h1 bs o1 x1 l1 => ?_
  have o1 : Ob h1 bs (sxC s fv) := o1
  have rz1 := rz.e x1
  have n1 := x1.next
  have rs1 : (sxF.r fun q => (¬ h1.isRoot v q ∧ K ≤ q) ∧ q < h1.next).rep h1 (sxC s fv) s := by
    have r0 := sxF.mono (Z' := fun q => (¬ h.isRoot v q ∧ K ≤ q) ∧ q < h.next) (fun q hq z => ⟨z, hq⟩) rs
    refine sxF.mono (fun q hq z => ⟨⟨?_, z.1.2⟩, by omega⟩) (Rp.ext _ r0 x1)
    rintro ⟨b, hb, rfl⟩
    exact z.1.1 ⟨b, hb, root_ext x1 (rz.1 b hb).2.2⟩
  simp [rz.len]
  refine Tells.bind (Tells.loop (fun n t g => g = h1 ∧ ∃ i : Nat, t 0 = v ∧ t 3 = .ptr bs 0 ∧ t 9 = I l.length ∧ t 10 = I i ∧ i + n = l.length ∧ ∀ y, y ∈ l.take i → sameK s.c s.n y = false)
    (Q := fun p g => (p.1 = .exit 0 ∧ g = h1 ∧ p.2 0 = v ∧ p.2 3 = .ptr bs 0 ∧ l.any (sameK s.c s.n) = false) ∨ (p.1 = .ret ∧ p.2 4 = v ∧ RowZ sxF K hA g v (comeL l s) ∧ ∀ S, Ext S hA h → Ext S hA g)) ?_ l.length _ _ ⟨rfl, 0, by simp, by simp, by simp, by simp, by omega, by simp⟩) ?_
  · rintro n t g ⟨rfl, i, t0, t3, t9, t10, hi, hno⟩
    refine Tells.prot fun Q2 hQ2 => ?_
    unfold L_subs_come_4
    simp [t9, t10]
    refine Tells.cb (fun hc => ?_) (fun hc => ?_)
    · simp at hc
      obtain ⟨x, hx⟩ : ∃ x, l[i]? = some x := ⟨_, List.getElem?_eq_getElem hc⟩
      obtain ⟨b, q, B, c, q1, q2, xv, rfl, _, _⟩ := rz1.at (n := 4) rfl hx
      have w : IntKind.i64.wrap ((i : Int) + 1) = i + 1 := wrap_id (by omega) (by omega)
      have q4 := q2.cell0 (by simp [sxC])
      have q5 := q2.cell (k := 2) (by simp [sxC])
      simp [sxC] at q4 q5
      have go : sameK s.c s.n x = false → ∀ t' : T, t' 0 = v → t' 3 = .ptr bs 0 → t' 9 = I l.length → t' 10 = I i → Tells (fun m => J_subs_come_6 Try.prog (acallX Try.prog X m) m okK t' g) Q2 := fun e t' a0 a3 a9 a10 => by
        simp [J_subs_come_6, a10, w]
        refine Tells.ok (hQ2 _ _ (.inl ⟨rfl, n - 1, by omega, rfl, i + 1, by simp [a0], by simp [a3], by simp [a9], by simp, by omega, fun y hy => ?_⟩))
        rw [List.take_add_one, hx] at hy
        rcases List.mem_append.1 hy with k | k
        · exact hno y k
        · simp at k; subst k; exact e
      by_cases c1 : x.c = s.c
      · by_cases c2 : x.n = s.n
        · have e : sameK s.c s.n x = true := by simp [sameK, c1, c2]
          have rs2 : (sxF.r fun q => ¬ g.isRoot v q ∧ K ≤ q).rep g (sxC s fv) s := sxF.mono (fun q _ z => z.1) rs1
          obtain ⟨b2, p2, v2, i1, i2, i3, i4, i5, g2, i6, i7, rz2⟩ := rz1.putE (n := 4) rfl hc rs2
          have i6' := i6 (.agg (sxC s fv)) rfl
          simp only [sxC] at i6'
          cases q1.symm.trans i5
          simp [J_subs_come_5, t0, t3, t10, q1, q2.get, q4, q5, o1.1, sxC, c1, c2, i6']
          refine Tells.ok (hQ2 _ _ (.inr ⟨by simp, .inr ⟨rfl, by simp [t0], ?_, fun S xs => (xs.trans x1.of).extC i7 i3⟩⟩))
          have : comeL l s = l.set i s := by
            unfold comeL
            rw [if_pos (List.any_eq_true.2 ⟨x, List.mem_of_getElem? hx, e⟩)]
            exact setF_at hno hx e
          rw [this]
          exact rz2
        · have e : sameK s.c s.n x = false := by simp [sameK, c2]
          simp [J_subs_come_5, t0, t3, t10, q1, q2.get, q4, q5, o1.1, sxC, c1, beq_eq_false_iff_ne.2 c2]
          exact go e _ (by simp [t0]) (by simp [t3]) (by simp [t9]) (by simp [t10])
      · have e : sameK s.c s.n x = false := by simp [sameK, c1]
        simp [J_subs_come_5, t0, t3, t10, q1, q2.get, q4, q5, o1.1, sxC, beq_eq_false_iff_ne.2 c1]
        exact go e _ (by simp [t0]) (by simp [t3]) (by simp [t9]) (by simp [t10])
    · simp at hc
      exact Tells.ok (hQ2 _ _ (.inr ⟨by simp, .inl ⟨rfl, rfl, by simp [t0], by simp [t3], any_take hno (by omega)⟩⟩))
  · rintro ⟨ex, t⟩ g (⟨rfl, rfl, t0, t3, hno⟩ | ⟨rfl, t4, rz2, X2⟩)
    · have t0 : t 0 = v := t0
      have t3 : t 3 = .ptr bs 0 := t3
      simp [J_subs_come_0]
      refine Tells.bind (Tells.loop (fun n t g' => g' = g ∧ ∃ i : Nat, t 0 = v ∧ t 3 = .ptr bs 0 ∧ t 6 = I i ∧ i + n = l.length ∧ ∀ y, y ∈ l.take i → ltK s.c s.n y = true)
        (Q := fun p g' => g' = g ∧ p.1 = .exit 2 ∧ p.2 0 = v ∧ p.2 3 = .ptr bs 0 ∧ ∃ i : Nat, p.2 6 = I i ∧ i ≤ l.length ∧ insB s l = l.take i ++ s :: l.drop i) ?_ l.length _ _ ⟨rfl, 0, by simp [t0], by simp [t3], by simp, by omega, by simp⟩) ?_
      · rintro n t g' ⟨rfl, i, t0, t3, t6, hi, hlt⟩
        refine Tells.prot fun Q2 hQ2 => ?_
        unfold L_subs_come_2
        have w : IntKind.i64.wrap ((i : Int) + 1) = i + 1 := wrap_id (by omega) (by omega)
        have stop : (∀ x, l[i]? = some x → ltK s.c s.n x = false) → ∀ t' : T, t' 0 = v → t' 3 = .ptr bs 0 → t' 6 = I i → Q2 (.exit 2, t') g' := fun e t' a0 a3 a6 => hQ2 _ _ (.inr ⟨by simp, rfl, rfl, a0, a3, i, a6, by omega, insB_at (by omega) hlt e⟩)
        by_cases hc : i < l.length
        · obtain ⟨x, hx⟩ : ∃ x, l[i]? = some x := ⟨_, List.getElem?_eq_getElem hc⟩
          obtain ⟨b, q, B, c, q1, q2, xv, rfl, _, _⟩ := rz1.at (n := 4) rfl hx
          have q4 := q2.cell0 (by simp [sxC])
          have q5 := q2.cell (k := 2) (by simp [sxC])
          simp [sxC] at q4 q5
          have hc' : ((i : Int) < (l.length : Int)) := by omega
          have go : ltK s.c s.n x = true → ∀ t' : T, t' 0 = v → t' 3 = .ptr bs 0 → t' 6 = I i → Tells (fun m => J_subs_come_3 Try.prog (acallX Try.prog X m) m okK t' g') Q2 := fun e t' a0 a3 a6 => by
            simp [J_subs_come_3, a6, w]
            refine Tells.ok (hQ2 _ _ (.inl ⟨rfl, n - 1, by omega, rfl, i + 1, by simp [a0], by simp [a3], by simp, by omega, fun y hy => ?_⟩))
            rw [List.take_add_one, hx] at hy
            rcases List.mem_append.1 hy with k | k
            · exact hlt y k
            · simp at k; subst k; exact e
          by_cases c1 : x.c < s.c
          · have e : ltK s.c s.n x = true := by simp [ltK, c1]
            simp [t0, t3, t6, rz1.len, hc, hc', q1, q2.get, q4, q5, o1.1, sxC, c1]
            exact go e _ (by simp [t0]) (by simp [t3]) (by simp [t6])
          · by_cases c2 : x.c = s.c
            · by_cases c3 : x.n < s.n
              · have e : ltK s.c s.n x = true := by simp [ltK, c2, c3]
                simp [t0, t3, t6, rz1.len, hc, hc', q1, q2.get, q4, q5, o1.1, sxC, c2, c3]
                exact go e _ (by simp [t0]) (by simp [t3]) (by simp [t6])
              · have e : ltK s.c s.n x = false := by simp [ltK, c1, c3]
                simp [t0, t3, t6, rz1.len, hc, hc', q1, q2.get, q4, q5, o1.1, sxC, c2, c3]
                exact Tells.ok (stop (fun y hy => by rw [hx] at hy; cases hy; exact e) _ (by simp [t0]) (by simp [t3]) (by simp [t6]))
            · have e : ltK s.c s.n x = false := by simp [ltK, c1, c2]
              simp [t0, t3, t6, rz1.len, hc, hc', q1, q2.get, q4, q5, o1.1, sxC, c1, beq_eq_false_iff_ne.2 c2]
              exact Tells.ok (stop (fun y hy => by rw [hx] at hy; cases hy; exact e) _ (by simp [t0]) (by simp [t3]) (by simp [t6]))
        · have hc' : ¬ ((i : Int) < (l.length : Int)) := by omega
          simp [t0, t6, rz1.len, hc, hc']
          exact Tells.ok (stop (fun x hx => by rw [List.getElem?_eq_none (by omega)] at hx; cases hx) _ (by simp [t0]) (by simp [t3]) (by simp [t6]))
      · rintro ⟨ex, t'⟩ g' ⟨rfl, rfl, a0, a3, i, a6, hi, hin⟩
        have a0 : t' 0 = v := a0
        have a3 : t' 3 = .ptr bs 0 := a3
        have a6 : t' 6 = I i := a6
        have rl : Sl (sxZ fun q => (¬ g'.isRoot v q ∧ K ≤ q) ∧ q < g'.next) g' v l := rz1.2.1.fam sxF fun q hq z => ⟨z, hq⟩
        obtain ⟨v1, u1, u2, _⟩ := rl.takeR (n := 4) rfl hi
        obtain ⟨v2, u3, u4, _⟩ := rl.dropR (n := 4) rfl hi
        simp [J_subs_come_1, a0, a6, a3, u1]
        refine Tells.copyZ (F := sxF) (K := K) u2 (fun q _ z => z.1.2) (by rfl) (by simp; omega) (by decide) fun s2 g2 r2 x2 => ?_
        have o2 := o1.e x2
        have up2 : ∀ q, q < g'.next → ¬ g2.isRoot s2 q := fun q hq => by
          rintro ⟨b, hb, rfl⟩
          have := (r2.1 b hb).1
          omega
        simp [o2.1, sxC]
        have rs2 : (sxF.r fun q => ¬ g2.isRoot s2 q ∧ K ≤ q).rep g2 (sxC s fv) s := sxF.mono (fun q hq z => ⟨up2 q z.2, z.1.2⟩) (Rp.ext _ rs1 x2)
        have n2 := x2.next
        refine Tells.appZE r2 (by rfl) (by rfl) (x := s) (c := sxC s fv) rs2 (by rfl) (by rfl) (by simp; omega) (by decide) n2 fun s3 g3 r3 x3 y3 nr3 => ?_
        have n3 := x3.next
        have u5 : Sl (sxF.r fun q => ¬ g3.isRoot s3 q ∧ K ≤ q) g3 v2 (l.drop i) := ((u4.ext x2).ext x3).fam sxF fun q _ z => ⟨nr3 q (by omega) (up2 q z.2), z.1.2⟩
        simp [u3]
        refine Tells.appNZE r3 u5 (by rfl) (by simp; omega) (by decide) (by omega) fun s4 g4 r4 x4 y4 _ => ?_
        try simp
        refine Tells.ok (hQ _ _ ⟨?_, fun S xs => ?_⟩)
        · have : comeL l s = l.take i ++ [s] ++ l.drop i := by
            unfold comeL
            rw [if_neg (by simp [hno]), hin]
            simp
          rw [this]
          exact r4.back (by omega)
        · have xs' := xs.trans x1.of
          exact xs'.trans ((y4 [] (y3 [] x2)).of)
    · have t4 : t 4 = v := t4
      simp [t4]
      exact Tells.ok (hQ _ _ ⟨rz2, X2⟩)

theorem setF_len (s : Sx) : ∀ l : List Sx, (setF s l).length = l.length
  | [] => rfl
  | x :: r => by
    unfold setF
    split
    · rfl
    · simp [setF_len s r]
theorem insB_len (s : Sx) : ∀ l : List Sx, (insB s l).length = l.length + 1
  | [] => rfl
  | x :: r => by
    unfold insB
    split
    · simp [insB_len s r]
    · rfl
theorem appL_len (l : List Sx) (g : Cg) : (appL l g).length ≤ l.length + 1 := by
  unfold appL comeL goneL
  split
  · have := List.length_filter_le (fun x => !sameK g.s.c g.s.n x) l
    omega
  · split
    · rw [setF_len]; omega
    · rw [insB_len]; exact Nat.le_refl _
theorem foldl_len : ∀ (ch : List Cg) (l : List Sx), (ch.foldl appL l).length ≤ l.length + ch.length
  | [], l => by simp
  | g :: ch, l => by
    have h1 := appL_len l g
    have h2 := foldl_len ch (appL l g)
    simp only [List.foldl_cons, List.length_cons]
    omega

theorem subs_Apply (hX : OnlyKnown X) {h : Heap} {v cv : AVal} {l : List Sx} {ch : List Cg} {Z : Nat → Prop} (o : Sl (sxZ Z) h v l) (sz : SzS l) (hl : l.length ≤ 400) (oc : Sl cgR h cv ch) (hc : ch.length ≤ 400) (sc : ∀ g, g ∈ ch → SzF g.s.fl) :
    Tells (fun q => acallX Try.prog X q F_subs_Apply [v, cv] h) fun r h' => RowZ sxF h.next h h' r (ch.foldl appL l) ∧ Ext [] h h' := by
  refine R_subs_Apply _ _ (hX _ _ rfl) ?_
  refine Tells.prot fun Q' hQ => ?_
  unfold S_subs_Apply
  try simp
  refine Tells.bind (subs_copies hX o sz) ?_
  rintro v1 h1 ⟨rz1, x1⟩
  simp [oc.len]
  refine Tells.bind (Tells.loop (fun n t g => ∃ i : Nat, t 10 = cv ∧ t 11 = I ch.length ∧ t 12 = I i ∧ i + n = ch.length ∧ RowZ sxF h.next h g (t 5) ((ch.take i).foldl appL l) ∧ Ext [] h g)
    (Q := fun p g => p.1 = .exit 0 ∧ RowZ sxF h.next h g (p.2 5) (ch.foldl appL l) ∧ Ext [] h g) ?_ ch.length _ _ ⟨0, by simp, by simp, by simp, by omega, by simpa using rz1, x1⟩) ?_
  · rintro n t g ⟨i, t10, t11, t12, hi, rz, xg⟩
    refine Tells.prot fun Q2 hQ2 => ?_
    unfold L_subs_Apply_1
    have og := oc.ext xg
    simp [t11, t12]
    refine Tells.cb (fun hc => ?_) (fun hc => ?_)
    · simp at hc
      obtain ⟨c, hcx⟩ : ∃ s, ch[i]? = some s := ⟨_, List.getElem?_eq_getElem hc⟩
      obtain ⟨b, q, B, cs, q1, q2, fv, rfl, of_, _⟩ := og.at (n := 5) rfl (i := (i : Int)) (by omega) (by simpa using hcx)
      have w : IntKind.i64.wrap ((i : Int) + 1) = i + 1 := wrap_id (by omega) (by omega)
      have q4 := q2.lda (n := 5) rfl
      have tk : (ch.take (i + 1)).foldl appL l = appL ((ch.take i).foldl appL l) c := by rw [List.take_add_one, hcx, List.foldl_append]; rfl
      have len := foldl_len (ch.take i) l
      have len2 : (ch.take i).length ≤ ch.length := by simp; omega
      simp [J_subs_Apply_2, t10, t12, q1, q4]
      refine Tells.newSt (ds := .bool c.gone :: sxC c.s fv) (by rfl) (by rfl) (by rfl) (by simp [sxC, of_.one]) fun g1 bp op x1 l1 => ?_
      have rz1 := rz.e x1
      have ng := xg.next
      have n1 := x1.next
      have XG1 := xg.trans x1
      have fin : ∀ (t' : T) (r : AVal) (g' : Heap), t' 10 = cv → t' 11 = I ch.length → t' 12 = I i → t' 5 = r → RowZ sxF h.next h g' r (appL ((ch.take i).foldl appL l) c) → Ext [] h g' → Tells (fun m => J_subs_Apply_3 Try.prog (acallX Try.prog X m) m okK t' g') Q2 := fun t' r g' a10 a11 a12 a5 r' x' => by
        simp [J_subs_Apply_3, a12, w]
        exact Tells.ok (hQ2 _ _ (.inl ⟨rfl, n - 1, by omega, i + 1, by simp [a10], by simp [a11], by simp, by omega, by rw [tk]; simpa [a5] using r', x'⟩))
      cases hg : c.gone with
      | true =>
        simp [op.1, sxC, hg]
        refine Tells.bind (subs_gone hX rz1.2.1 (K := h.next) (fun q _ z => z.2) (by omega) c.s.c c.s.n) ?_
        rintro r g2 ⟨r2, x2⟩
        try simp
        refine fin _ r g2 (by simp [t10]) (by simp [t11]) (by simp [t12]) (by simp) ?_ (XG1.trans x2)
        unfold appL
        rw [if_pos hg]
        exact r2.back (by omega)
      | false =>
        simp [op.1, sxC, hg]
        refine Tells.bind (subs_clone hX (s := c.s) (of_.ext x1) (sc c (List.mem_of_getElem? hcx))) ?_
        rintro _ g2 ⟨v2, rfl, rv, x2⟩
        have rz2 := rz1.e x2
        have n2 := x2.next
        try simp
        refine Tells.bind (subs_come hX rz2 (fresh_sx rz1 rv x2 (by omega)) (by omega) (by omega)) ?_
        rintro r g3 ⟨r3, x3⟩
        try simp
        refine fin _ r g3 (by simp [t10]) (by simp [t11]) (by simp [t12]) (by simp) ?_ (x3 [] (XG1.trans x2))
        unfold appL
        rw [if_neg (by simp [hg])]
        exact r3
    · simp at hc
      have hfl : ch.take i = ch := List.take_of_length_le (by omega)
      rw [hfl] at rz
      exact Tells.ok (hQ2 _ _ (.inr ⟨by simp, rfl, by simpa using rz, xg⟩))
  · rintro ⟨ex, t⟩ g ⟨rfl, rz, xg⟩
    simp [J_subs_Apply_0]
    exact Tells.ok (hQ _ _ ⟨by simpa using rz, xg⟩)

def ofL (l : List Sx) (c : Int) : List Sx := l.filter fun x => x.c == c
theorem subs_Of (hX : OnlyKnown X) {h : Heap} {v : AVal} {l : List Sx} {Z : Nat → Prop} (o : Sl (sxZ Z) h v l) (sz : SzS l) (cl : Int) :
    Tells (fun q => acallX Try.prog X q F_subs_Of [v, I cl] h) fun r h' => RowZ sxF h.next h h' r (ofL l cl) ∧ Ext [] h h' := by
  refine R_subs_Of _ _ (hX _ _ rfl) ?_
  refine Tells.prot fun Q' hQ => ?_
  unfold S_subs_Of
  have hl := sz.1
  simp [o.len]
  refine Tells.bind (Tells.loop (fun n t g => ∃ i : Nat, t 1 = I cl ∧ t 8 = v ∧ t 9 = I l.length ∧ t 10 = I i ∧ i + n = l.length ∧ RowZ sxF h.next h g (t 5) (ofL (l.take i) cl) ∧ Ext [] h g)
    (Q := fun p g => p.1 = .exit 0 ∧ RowZ sxF h.next h g (p.2 5) (ofL l cl) ∧ Ext [] h g) ?_ l.length _ _ ⟨0, by simp, by simp, by simp, by simp, by omega, by simpa [ofL] using RowZ.nil, .refl⟩) ?_
  · rintro n t g ⟨i, t1, t8, t9, t10, hi, rz, xg⟩
    refine Tells.prot fun Q2 hQ2 => ?_
    unfold L_subs_Of_1
    have og := o.ext xg
    simp [t9, t10]
    refine Tells.cb (fun hc => ?_) (fun hc => ?_)
    · simp at hc
      obtain ⟨s, hs⟩ : ∃ s, l[i]? = some s := ⟨_, List.getElem?_eq_getElem hc⟩
      obtain ⟨b, q, B, c, q1, q2, fv, rfl, of_, _⟩ := og.at (n := 4) rfl (i := (i : Int)) (by omega) (by simpa using hs)
      have w : IntKind.i64.wrap ((i : Int) + 1) = i + 1 := wrap_id (by omega) (by omega)
      have q4 := q2.lda (n := 4) rfl
      have tk : ofL (l.take (i + 1)) cl = ofL (l.take i) cl ++ (if s.c = cl then [s] else []) := by
        rw [List.take_add_one, hs]
        unfold ofL
        rw [List.filter_append]
        congr 1
        by_cases e : s.c = cl <;> simp [e]
      have len2 : (ofL (l.take i) cl).length ≤ l.length := by
        refine Nat.le_trans (List.length_filter_le _ _) ?_
        simp; omega
      simp [J_subs_Of_2, t8, t10, q1, q4]
      refine Tells.newSt (ds := sxC s fv) (by rfl) (by rfl) (by rfl) (by simp [sxC, of_.one]) fun g1 bp op x1 l1 => ?_
      have rz1 := rz.e x1
      have ng := xg.next
      have n1 := x1.next
      by_cases e : s.c = cl
      · simp [op.1, sxC, t1, e]
        have hcl : (AVal.agg [I cl, I s.b, I s.n, fv]) = .agg (sxC s fv) := by rw [← e]; rfl
        rw [hcl]
        refine Tells.bind (subs_clone hX (s := s) (of_.ext x1) (sz.2 s (List.mem_of_getElem? hs))) ?_
        rintro _ g2 ⟨v2, rfl, rv, x2⟩
        have n2 := x2.next
        try simp [sxC]
        refine Tells.appZ (rz1.e x2) (by rfl) (by rfl) (x := s) (c := sxC s v2) (fresh_sx rz1 rv x2 (by omega)) (by rfl) (by rfl) (by omega) (by decide) (by omega) fun s4 g4 rz4 x4 y4 => ?_
        simp [J_subs_Of_3, t10, w]
        exact Tells.ok (hQ2 _ _ (.inl ⟨rfl, n - 1, by omega, i + 1, by simp [t1], by simp [t8], by simp [t9], by simp, by omega, by rw [tk, if_pos e]; simpa using rz4, y4 [] ((xg.trans x1).trans x2)⟩))
      · simp [op.1, sxC, t1, beq_eq_false_iff_ne.2 e, J_subs_Of_3, t10, w]
        exact Tells.ok (hQ2 _ _ (.inl ⟨rfl, n - 1, by omega, i + 1, by simp [t1], by simp [t8], by simp [t9], by simp, by omega, by rw [tk, if_neg e]; simpa using rz1, xg.trans x1⟩))
    · simp at hc
      have hfl : l.take i = l := List.take_of_length_le (by omega)
      rw [hfl] at rz
      exact Tells.ok (hQ2 _ _ (.inr ⟨by simp, rfl, by simpa using rz, xg⟩))
  · rintro ⟨ex, t⟩ g ⟨rfl, rz, xg⟩
    simp [J_subs_Of_0]
    exact Tells.ok (hQ _ _ ⟨by simpa using rz, xg⟩)

theorem subs_Has (hX : OnlyKnown X) {h : Heap} {v : AVal} {l : List Sx} {Z : Nat → Prop} (o : Sl (sxZ Z) h v l) (hl : l.length ≤ 1000) (cl nu : Int) :
    Tells (fun q => acallX Try.prog X q F_subs_Has [v, I cl, I nu] h) fun r h' => r = .bool (l.any (sameK cl nu)) ∧ Ext [] h h' := by
  refine R_subs_Has _ _ _ (hX _ _ rfl) ?_
  refine Tells.prot fun Q' hQ => ?_
  unfold S_subs_Has
  simp [o.len]
  refine Tells.bind (Tells.loop (fun n t g => ∃ i : Nat, t 1 = I cl ∧ t 2 = I nu ∧ t 9 = v ∧ t 10 = I l.length ∧ t 11 = I i ∧ i + n = l.length ∧ (∀ y, y ∈ l.take i → sameK cl nu y = false) ∧ Ext [] h g)
    (Q := fun p g => ((p.1 = .exit 0 ∧ l.any (sameK cl nu) = false) ∨ (p.1 = .ret ∧ p.2 6 = .bool true ∧ l.any (sameK cl nu) = true)) ∧ Ext [] h g) ?_ l.length _ _ ⟨0, by simp, by simp, by simp, by simp, by simp, by omega, by simp, .refl⟩) ?_
  · rintro n t g ⟨i, t1, t2, t9, t10, t11, hi, hno, xg⟩
    refine Tells.prot fun Q2 hQ2 => ?_
    unfold L_subs_Has_1
    have og := o.ext xg
    simp [t10, t11]
    refine Tells.cb (fun hc => ?_) (fun hc => ?_)
    · simp at hc
      obtain ⟨s, hs⟩ : ∃ s, l[i]? = some s := ⟨_, List.getElem?_eq_getElem hc⟩
      obtain ⟨b, q, B, c, q1, q2, fv, rfl, of_, _⟩ := og.at (n := 4) rfl (i := (i : Int)) (by omega) (by simpa using hs)
      have w : IntKind.i64.wrap ((i : Int) + 1) = i + 1 := wrap_id (by omega) (by omega)
      have q4 := q2.lda (n := 4) rfl
      simp [J_subs_Has_2, t9, t11, q1, q4]
      refine Tells.newSt (ds := sxC s fv) (by rfl) (by rfl) (by rfl) (by simp [sxC, of_.one]) fun g1 bp op x1 l1 => ?_
      have go : sameK cl nu s = false → ∀ t' : T, t' 1 = I cl → t' 2 = I nu → t' 9 = v → t' 10 = I l.length → t' 11 = I i → Tells (fun m => J_subs_Has_3 Try.prog (acallX Try.prog X m) m okK t' g1) Q2 := fun e t' a1 a2 a9 a10 a11 => by
        simp [J_subs_Has_3, a11, w]
        refine Tells.ok (hQ2 _ _ (.inl ⟨rfl, n - 1, by omega, i + 1, by simp [a1], by simp [a2], by simp [a9], by simp [a10], by simp, by omega, fun y hy => ?_, xg.trans x1⟩))
        rw [List.take_add_one, hs] at hy
        rcases List.mem_append.1 hy with k | k
        · exact hno y k
        · simp at k; subst k; exact e
      by_cases c1 : s.c = cl
      · by_cases c2 : s.n = nu
        · have e : sameK cl nu s = true := by simp [sameK, c1, c2]
          simp [op.1, sxC, t1, t2, c1, c2]
          exact Tells.ok (hQ2 _ _ (.inr ⟨by simp, .inr ⟨rfl, by simp, List.any_eq_true.2 ⟨s, List.mem_of_getElem? hs, e⟩⟩, xg.trans x1⟩))
        · have e : sameK cl nu s = false := by simp [sameK, c2]
          simp [op.1, sxC, t1, t2, c1, beq_eq_false_iff_ne.2 c2]
          exact go e _ (by simp [t1]) (by simp [t2]) (by simp [t9]) (by simp [t10]) (by simp [t11])
      · have e : sameK cl nu s = false := by simp [sameK, c1]
        simp [op.1, sxC, t1, t2, beq_eq_false_iff_ne.2 c1]
        exact go e _ (by simp [t1]) (by simp [t2]) (by simp [t9]) (by simp [t10]) (by simp [t11])
    · simp at hc
      exact Tells.ok (hQ2 _ _ (.inr ⟨by simp, .inl ⟨rfl, any_take hno (by omega)⟩, xg⟩))
  · rintro ⟨ex, t⟩ g ⟨⟨rfl, hno⟩ | ⟨rfl, t6, hyes⟩, xg⟩
    · simp [J_subs_Has_0]
      exact Tells.ok (hQ _ _ ⟨by rw [hno], xg⟩)
    · have t6 : t 6 = .bool true := t6
      simp [t6]
      exact Tells.ok (hQ _ _ ⟨by rw [hyes], xg⟩)
end
end Go.Proofs.Ytooeiefgnhgbeaa

/-! Filters and subscriptions that are right. -/
namespace Go.Proofs.Ytooeiefgnhgbeaa
open Go.Ab

def mayB (s : Sx) : Bool := decide (1 ≤ s.c) && (decide (s.c ≤ 6) && (decide (0 ≤ s.b) && (decide (s.b ≤ 7) && (decide (1 ≤ s.n) && (decide (s.n ≤ 4611686018427387904) && rightFl s.fl)))))
def SzR (s : Sx) : Prop := s.fl.length ≤ 1000 ∧ ∀ p, p ∈ s.fl → SzN p

section
variable {X : XTab}

theorem filter_Right (hX : OnlyKnown X) {h : Heap} {v : AVal} {l : List Prd} (o : Sl prR h v l) (hl : l.length ≤ 1000) (sz : ∀ p, p ∈ l → SzN p) : Tells (fun q => acallX Try.prog X q F_filter_Right [v] h) fun r h' => r = .bool (rightFl l) ∧ Ext [] h h' := by
  refine R_filter_Right _ (hX _ _ rfl) ?_
  refine Tells.prot fun Q' hQ => ?_
  unfold S_filter_Right
  by_cases h3 : l.length ≤ 3
  · have h3' : ¬ (3 : Int) < l.length := by omega
    have h3'' : ¬ 3 < l.length := by omega
    simp [o.len, h3', h3'', J_filter_Right_0]
    refine Tells.bind (Tells.loop (fun k t g => ∃ i : Nat, t 0 = v ∧ t 8 = v ∧ t 9 = I l.length ∧ t 10 = I i ∧ i + k = l.length ∧ rightFs none l = rightFs (prevP l i) (l.drop i) ∧ Ext [] h g)
      (Q := fun r g => ((r.1 = .exit 0 ∧ rightFs none l = true) ∨ (r.1 = .ret ∧ r.2 2 = .bool false ∧ rightFs none l = false)) ∧ Ext [] h g) ?_ l.length _ _ ⟨0, by simp, by simp, by simp, by simp, by omega, by simp [prevP], .refl⟩) ?_
    · rintro k t g ⟨i, t0, t8, t9, t10, hi, hs, xg⟩
      refine Tells.prot fun Q2 hQ2 => ?_
      unfold L_filter_Right_2
      have og := o.ext xg
      simp [t9, t10]
      refine Tells.cb (fun hc => ?_) (fun hc => ?_)
      · simp at hc
        obtain ⟨x, hx⟩ : ∃ x, l[i]? = some x := ⟨_, List.getElem?_eq_getElem hc⟩
        obtain ⟨b1, p1, B1, c1, q1, q2, sv, rfl, os, _⟩ := og.at (n := 13) rfl (i := (i : Int)) (by omega) (by simpa using hx)
        have w : IntKind.i64.wrap ((i : Int) + 1) = i + 1 := wrap_id (by omega) (by omega)
        have q4 := q2.lda (n := 13) rfl
        have e := rightFs_drop hx
        simp [J_filter_Right_3, t8, t10, q1, q4]
        refine Tells.newSt (ds := prC x sv) (by rfl) (by rfl) (by rfl) (by simp [prC, vlC, os.one]) fun g1 bp op x1 l1 => ?_
        have rep1 : prR.rep g1 (prC x sv) x := ⟨sv, rfl, os.ext x1, fun _ _ => trivial⟩
        have ld : ldn 13 g1 (.ptr bp 0) = some (.agg (prC x sv)) := by simp [op.1, prC, vlC]
        simp [ld]
        refine Tells.cbE (pred_Right hX rep1 (sz x (List.mem_of_getElem? hx))) ?_
        rintro _ g2 ⟨rfl, x2⟩
        have op2 := op.e x2
        have X2 := (xg.trans x1).trans x2
        cases e1 : rightP x with
        | false =>
          try simp
          exact Tells.ok (hQ2 _ _ (.inr ⟨by simp, .inr ⟨rfl, by simp, by rw [hs, e, e1]; rfl⟩, X2⟩))
        | true =>
          by_cases h0 : i = 0
          · subst h0
            simp [t10, J_filter_Right_4]
            exact Tells.ok (hQ2 _ _ (.inl ⟨rfl, k - 1, by omega, 1, by simp [t0], by simp [t8], by simp [t9], by simp; rfl, by omega, by rw [hs, e, e1]; simp [prevP], X2⟩))
          · obtain ⟨y, hy⟩ : ∃ y, l[i - 1]? = some y := ⟨_, List.getElem?_eq_getElem (by omega)⟩
            have h0' : (0 : Int) < i := by omega
            have h0'' : 0 < i := by omega
            have w1 : IntKind.i64.wrap ((i : Int) - 1) = ((i - 1 : Nat) : Int) := by rw [wrap_id (by omega) (by omega)]; omega
            obtain ⟨b2, p2, B2, c2, r1, r2, sw, rfl, ow, _⟩ := (og.ext x1 |>.ext x2).at (n := 13) rfl (i := ((i - 1 : Nat) : Int)) (by omega) (by simpa using hy)
            have r4 := r2.cell0 (by simp [prC])
            simp [prC] at r4
            have ep : prevP l i = some y.name := by simp [prevP, h0, hy]
            rw [ep] at e
            simp only at e
            cases e2 : (Op.bytesLess y.name.toList x.name.toList || y.name.toList == x.name.toList) with
            | true =>
              have fin : ∀ t2 : T, t2 0 = v → t2 8 = v → t2 9 = I l.length → t2 10 = I ((i : Int) + 1) → Q2 (.normal, t2) g2 := fun t2 a0 a8 a9 a10 => hQ2 _ _ (.inl ⟨rfl, k - 1, by omega, i + 1, a0, a8, a9, a10, by omega, by rw [hs, ep, e, e1, e2]; rfl, X2⟩)
              rcases Bool.or_eq_true _ _ ▸ e2 with q | q
              · simp [t10, t0, h0', h0'', w1, r1, r2.get, r4, op2.1, prC, vlC, q, J_filter_Right_4, w]
                exact Tells.ok (fin _ (by simp [t0]) (by simp [t8]) (by simp [t9]) (by simp))
              · simp [t10, t0, h0', h0'', w1, r1, r2.get, r4, op2.1, prC, vlC, q, J_filter_Right_4, w]
                exact Tells.ok (fin _ (by simp [t0]) (by simp [t8]) (by simp [t9]) (by simp))
            | false =>
              have e3 := e2
              simp only [Bool.or_eq_false_iff] at e3
              simp [t10, t0, h0', h0'', w1, r1, r2.get, r4, op2.1, prC, vlC, e3.1, e3.2]
              exact Tells.ok (hQ2 _ _ (.inr ⟨by simp, .inr ⟨rfl, by simp, by rw [hs, ep, e, e1, e2]; rfl⟩, X2⟩))
      · simp at hc
        refine Tells.ok (hQ2 _ _ (.inr ⟨by simp, .inl ⟨rfl, ?_⟩, xg⟩))
        rw [hs, List.drop_eq_nil_of_le (by omega)]
        rfl
    · rintro ⟨ex, t⟩ g ⟨⟨rfl, he⟩ | ⟨rfl, t2, he⟩, xg⟩
      · simp [J_filter_Right_1]
        exact Tells.ok (hQ _ _ ⟨by simp [rightFl, he, h3], xg⟩)
      · have t2 : t 2 = .bool false := t2
        simp [t2]
        exact Tells.ok (hQ _ _ ⟨by simp [rightFl, he], xg⟩)
  · have h3' : (3 : Int) < l.length := by omega
    have h3'' : 3 < l.length := by omega
    simp [o.len, h3', h3'']
    exact Tells.ok (hQ _ _ ⟨by simp [rightFl, h3], .refl⟩)

theorem ref_RightFilter (hX : OnlyKnown X) {h : Heap} {v : AVal} {l : List Prd} (o : Sl prR h v l) (hl : l.length ≤ 1000) (sz : ∀ p, p ∈ l → SzN p) : Tells (fun q => acallX Try.prog X q F_precentorref1_RightFilter [v] h) fun r h' => r = .bool (rightFl l) ∧ Ext [] h h' := by
  refine R_precentorref1_RightFilter _ (hX _ _ rfl) ?_
  refine Tells.prot fun Q' hQ => ?_
  unfold S_precentorref1_RightFilter
  try simp
  refine Tells.bind (Tells.loop (fun k t g => ∃ i : Nat, t 0 = v ∧ t 3 = I i ∧ i + k = l.length ∧ rightFs none l = rightFs (prevP l i) (l.drop i) ∧ Ext [] h g)
    (Q := fun r g => ((r.1 = .exit 0 ∧ r.2 0 = v ∧ rightFs none l = true) ∨ (r.1 = .ret ∧ r.2 2 = .bool false ∧ rightFs none l = false)) ∧ Ext [] h g) ?_ l.length _ _ ⟨0, by simp, by simp, by omega, by simp [prevP], .refl⟩) ?_
  · rintro k t g ⟨i, t0, t3, hi, hs, xg⟩
    refine Tells.prot fun Q2 hQ2 => ?_
    unfold L_precentorref1_RightFilter_1
    have og := o.ext xg
    simp [t3, t0, og.len]
    refine Tells.cb (fun hc => ?_) (fun hc => ?_)
    · simp at hc
      obtain ⟨x, hx⟩ : ∃ x, l[i]? = some x := ⟨_, List.getElem?_eq_getElem hc⟩
      obtain ⟨b1, p1, B1, c1, q1, q2, sv, rfl, os, _⟩ := og.at (n := 13) rfl (i := (i : Int)) (by omega) (by simpa using hx)
      have w : IntKind.i64.wrap ((i : Int) + 1) = i + 1 := wrap_id (by omega) (by omega)
      have q4 := q2.lda (n := 13) rfl
      have e := rightFs_drop hx
      have rep1 : prR.rep g (prC x sv) x := ⟨sv, rfl, os, fun _ _ => trivial⟩
      simp [J_precentorref1_RightFilter_2, t0, t3, q1, q4]
      refine Tells.cbE (ref_RightPred hX rep1 (sz x (List.mem_of_getElem? hx))) ?_
      rintro _ g2 ⟨rfl, x2⟩
      have X2 := xg.trans x2
      cases e1 : rightP x with
      | false =>
        try simp
        exact Tells.ok (hQ2 _ _ (.inr ⟨by simp, .inr ⟨rfl, by simp, by rw [hs, e, e1]; rfl⟩, X2⟩))
      | true =>
        by_cases h0 : i = 0
        · subst h0
          simp [t3, J_precentorref1_RightFilter_3]
          exact Tells.ok (hQ2 _ _ (.inl ⟨rfl, k - 1, by omega, 1, by simp [t0], by simp; rfl, by omega, by rw [hs, e, e1]; simp [prevP], X2⟩))
        · obtain ⟨y, hy⟩ : ∃ y, l[i - 1]? = some y := ⟨_, List.getElem?_eq_getElem (by omega)⟩
          have h0' : (0 : Int) < i := by omega
          have h0'' : 0 < i := by omega
          have w1 : IntKind.i64.wrap ((i : Int) - 1) = ((i - 1 : Nat) : Int) := by rw [wrap_id (by omega) (by omega)]; omega
          obtain ⟨b2, p2, B2, c2, r1, r2, sw, rfl, ow, _⟩ := (og.ext x2).at (n := 13) rfl (i := ((i - 1 : Nat) : Int)) (by omega) (by simpa using hy)
          obtain ⟨b3, p3, B3, c3, s1, s2, sw', rfl, ow', _⟩ := (og.ext x2).at (n := 13) rfl (i := (i : Int)) (by omega) (by simpa using hx)
          cases q1.symm.trans s1
          have r4 := r2.cell0 (by simp [prC])
          have s4 := s2.cell0 (by simp [prC])
          simp [prC] at r4 s4
          have ep : prevP l i = some y.name := by simp [prevP, h0, hy]
          rw [ep] at e
          simp only at e
          cases e2 : (Op.bytesLess y.name.toList x.name.toList || y.name.toList == x.name.toList) with
          | true =>
            have fin : ∀ t2 : T, t2 0 = v → t2 3 = I ((i : Int) + 1) → Q2 (.normal, t2) g2 := fun t2 a0 a10 => hQ2 _ _ (.inl ⟨rfl, k - 1, by omega, i + 1, a0, a10, by omega, by rw [hs, ep, e, e1, e2]; rfl, X2⟩)
            rcases Bool.or_eq_true _ _ ▸ e2 with q | q
            · simp [t3, t0, h0', h0'', w1, r1, r2.get, r4, q1, s2.get, s4, q, J_precentorref1_RightFilter_3, w]
              exact Tells.ok (fin _ (by simp [t0]) (by simp))
            · simp [t3, t0, h0', h0'', w1, r1, r2.get, r4, q1, s2.get, s4, q, J_precentorref1_RightFilter_3, w]
              exact Tells.ok (fin _ (by simp [t0]) (by simp))
          | false =>
            have e3 := e2
            simp only [Bool.or_eq_false_iff] at e3
            simp [t3, t0, h0', h0'', w1, r1, r2.get, r4, q1, s2.get, s4, e3.1, e3.2]
            exact Tells.ok (hQ2 _ _ (.inr ⟨by simp, .inr ⟨rfl, by simp, by rw [hs, ep, e, e1, e2]; rfl⟩, X2⟩))
    · simp at hc
      refine Tells.ok (hQ2 _ _ (.inr ⟨by simp, .inl ⟨rfl, by simp [t0], ?_⟩, xg⟩))
      rw [hs, List.drop_eq_nil_of_le (by omega)]
      rfl
  · rintro ⟨ex, t⟩ g ⟨⟨rfl, t0, he⟩ | ⟨rfl, t2, he⟩, xg⟩
    · have t0 : t 0 = v := t0
      have l3 : decide ((l.length : Int) ≤ 3) = decide (l.length ≤ 3) := by
        by_cases q : l.length ≤ 3
        · have : (l.length : Int) ≤ 3 := by omega
          simp [q, this]
        · have : ¬ (l.length : Int) ≤ 3 := by omega
          simp [q, this]
      simp [J_precentorref1_RightFilter_0, t0, (o.ext xg).len]
      exact Tells.ok (hQ _ _ ⟨by rw [rightFl, he, Bool.and_true]; first | rw [l3] | (congr 1; exact l3) | simpa using l3, xg⟩)
    · have t2 : t 2 = .bool false := t2
      simp [t2]
      exact Tells.ok (hQ _ _ ⟨by simp [rightFl, he], xg⟩)

theorem subs_may (hX : OnlyKnown X) {h : Heap} {fv : AVal} {s : Sx} (o : Sl prR h fv s.fl) (sz : SzR s) : Tells (fun q => acallX Try.prog X q F_subs_may [.agg (sxC s fv)] h) fun r h' => r = .bool (mayB s) ∧ Ext [] h h' := by
  refine R_subs_may _ (hX _ _ rfl) ?_
  refine Tells.prot fun Q' hQ => ?_
  unfold S_subs_may
  simp [sxC]
  refine Tells.box rfl rfl fun h1 bp o1 x1 l1 => ?_
  have o1 : Ob h1 bp (sxC s fv) := o1
  by_cases c1 : 1 ≤ s.c
  · by_cases c2 : s.c ≤ 6
    · by_cases c3 : 0 ≤ s.b
      · by_cases c4 : s.b ≤ 7
        · by_cases c5 : 1 ≤ s.n
          · by_cases c6 : s.n ≤ 4611686018427387904
            · simp [o1.1, sxC, c1, c2, c3, c4, c5, c6]
              refine Tells.bind (filter_Right hX (o.ext x1) sz.1 sz.2) ?_
              rintro _ h2 ⟨rfl, x2⟩
              try simp
              exact Tells.ok (hQ _ _ ⟨by simp [mayB, c1, c2, c3, c4, c5, c6], x1.trans x2⟩)
            · simp [o1.1, sxC, c1, c2, c3, c4, c5, c6]
              exact Tells.ok (hQ _ _ ⟨by simp [mayB, c6], x1⟩)
          · simp [o1.1, sxC, c1, c2, c3, c4, c5]
            exact Tells.ok (hQ _ _ ⟨by simp [mayB, c5], x1⟩)
        · simp [o1.1, sxC, c1, c2, c3, c4]
          exact Tells.ok (hQ _ _ ⟨by simp [mayB, c4], x1⟩)
      · simp [o1.1, sxC, c1, c2, c3]
        exact Tells.ok (hQ _ _ ⟨by simp [mayB, c3], x1⟩)
    · simp [o1.1, sxC, c1, c2]
      exact Tells.ok (hQ _ _ ⟨by simp [mayB, c2], x1⟩)
  · simp [o1.1, sxC, c1]
    exact Tells.ok (hQ _ _ ⟨by simp [mayB, c1], x1⟩)
end
end Go.Proofs.Ytooeiefgnhgbeaa

/-! Subscriptions that are right, in order. -/
namespace Go.Proofs.Ytooeiefgnhgbeaa
open Go.Ab

/-- May the i-th be, behind those ahead? -/
def okS (l : List Sx) (i : Nat) : Bool := match l[i]? with
  | none => true
  | some s => mayB s && ((if i = 0 then true else match l[i - 1]? with
      | some p => (decide (p.c < s.c) || (p.c == s.c && decide (p.n < s.n))) && !(p.c == s.c && p.b != s.b)
      | none => true) && (if i < 3 then true else match l[i - 3]? with
      | some q => q.c != s.c
      | none => true))
def rightS (l : List Sx) : Bool := (List.range l.length).all (okS l)
theorem rightS_true {l : List Sx} (h : ∀ j, j < l.length → okS l j = true) : rightS l = true := by
  unfold rightS
  rw [List.all_eq_true]
  intro j hj
  exact h j (List.mem_range.1 hj)
theorem rightS_false {l : List Sx} {i : Nat} (hi : i < l.length) (h : okS l i = false) : rightS l = false := by
  unfold rightS
  rw [List.all_eq_false]
  exact ⟨i, List.mem_range.2 hi, by simp [h]⟩

/-- How many of the last one's client there are, behind i. -/
def Mn (l : List Sx) (i m : Nat) : Prop := 0 < i → 1 ≤ m ∧ m ≤ 3 ∧ m ≤ i ∧ ∀ j p q, l[i - 1]? = some p → l[j]? = some q → j < i → if i - m ≤ j then q.c = p.c else q.c < p.c
theorem Mn.zero (l : List Sx) (m : Nat) : Mn l 0 m := fun h => by omega

section
variable {l : List Sx} {i m : Nat} {s p : Sx}
theorem okS_one (hs : l[0]? = some s) : okS l 0 = mayB s ∧ Mn l 1 1 := by
  refine ⟨by simp [okS, hs], fun _ => ⟨by omega, by omega, by omega, fun j p q hp hq hj => ?_⟩⟩
  have : j = 0 := by omega
  subst this
  simp at hp
  rw [hp] at hq
  cases hq
  rw [if_pos (by omega)]
theorem okS_up (k : Mn l i m) (h0 : 0 < i) (hs : l[i]? = some s) (hp : l[i - 1]? = some p) (hc : p.c < s.c) : okS l i = mayB s ∧ Mn l (i + 1) 1 := by
  obtain ⟨k1, k2, k3, k4⟩ := k h0
  have le : ∀ j q, l[j]? = some q → j < i → q.c ≤ p.c := fun j q hq hj => by
    have := k4 j p q hp hq hj
    split at this <;> omega
  refine ⟨?_, fun _ => ⟨by omega, by omega, by omega, fun j p' q hp' hq hj => ?_⟩⟩
  · have n0 : ¬ i = 0 := by omega
    have e1 : (p.c == s.c) = false := beq_eq_false_iff_ne.2 (by omega)
    simp only [okS, hs, n0, if_false, hp, e1, Bool.false_and, Bool.not_false, Bool.and_true, Bool.or_false, decide_eq_true hc, Bool.true_and]
    by_cases h3 : i < 3
    · simp [h3]
    · rw [if_neg h3]
      obtain ⟨q, hq⟩ : ∃ q, l[i - 3]? = some q := ⟨_, List.getElem?_eq_getElem (by have := (List.getElem?_eq_some_iff.1 hs).1; omega)⟩
      have := le _ q hq (by omega)
      have e2 : (q.c != s.c) = true := by simp; omega
      simp [hq, e2]
  · simp at hp'
    rw [hs] at hp'
    cases hp'
    by_cases hji : j = i
    · subst hji
      rw [hs] at hq
      cases hq
      rw [if_pos (by omega)]
    · rw [if_neg (by omega)]
      have := le j q hq (by omega)
      omega
theorem okS_eq (k : Mn l i m) (h0 : 0 < i) (hs : l[i]? = some s) (hp : l[i - 1]? = some p) (hc : p.c = s.c) (hn : p.n < s.n) (hb : p.b = s.b) (hm : m + 1 ≤ 3) : okS l i = mayB s ∧ Mn l (i + 1) (m + 1) := by
  obtain ⟨k1, k2, k3, k4⟩ := k h0
  refine ⟨?_, fun _ => ⟨by omega, by omega, by omega, fun j p' q hp' hq hj => ?_⟩⟩
  · have n0 : ¬ i = 0 := by omega
    simp only [okS, hs, n0, if_false, hp, hc, hb]
    by_cases h3 : i < 3
    · simp [h3, hn]
    · rw [if_neg h3]
      obtain ⟨q, hq⟩ : ∃ q, l[i - 3]? = some q := ⟨_, List.getElem?_eq_getElem (by have := (List.getElem?_eq_some_iff.1 hs).1; omega)⟩
      have := k4 _ p q hp hq (by omega)
      rw [if_neg (by omega)] at this
      have e2 : (q.c != s.c) = true := by simp; omega
      simp [hq, e2, hn]
  · simp at hp'
    rw [hs] at hp'
    cases hp'
    by_cases hji : j = i
    · subst hji
      rw [hs] at hq
      cases hq
      rw [if_pos (by omega)]
    · have := k4 j p q hp hq (by omega)
      by_cases c : i - m ≤ j
      · rw [if_pos c] at this
        rw [if_pos (by omega)]
        omega
      · rw [if_neg c] at this
        rw [if_neg (by omega)]
        omega
theorem okS_bad (k : Mn l i m) (h0 : 0 < i) (hs : l[i]? = some s) (hp : l[i - 1]? = some p) (hc : ¬ p.c < s.c) (hb : ¬ (p.c = s.c ∧ p.n < s.n ∧ p.b = s.b ∧ m + 1 ≤ 3)) : okS l i = false := by
  obtain ⟨k1, k2, k3, k4⟩ := k h0
  have n0 : ¬ i = 0 := by omega
  simp only [okS, hs, n0, if_false, hp, decide_eq_false hc, Bool.false_or]
  by_cases c1 : p.c = s.c
  · by_cases c2 : p.n < s.n
    · by_cases c3 : p.b = s.b
      · have hm : m = 3 := by omega
        subst hm
        rw [if_neg (show ¬ i < 3 by omega)]
        obtain ⟨q, hq⟩ : ∃ q, l[i - 3]? = some q := ⟨_, List.getElem?_eq_getElem (by have := (List.getElem?_eq_some_iff.1 hs).1; omega)⟩
        have := k4 _ p q hp hq (by omega)
        rw [if_pos (by omega)] at this
        have e2 : (q.c != s.c) = false := by simp; omega
        simp [hq, e2]
      · have e3 : (p.b != s.b) = true := by simp [c3]
        simp [c1, e3]
    · simp [c2]
  · have e1 : (p.c == s.c) = false := beq_eq_false_iff_ne.2 c1
    simp [e1]
theorem okS_may (hs : l[i]? = some s) (h : mayB s = false) : okS l i = false := by simp [okS, hs, h]
end

section
variable {X : XTab}
theorem subs_Right (hX : OnlyKnown X) {h : Heap} {v : AVal} {l : List Sx} (o : Sl sxR h v l) (hl : l.length ≤ 1000) (sz : ∀ s, s ∈ l → SzR s) : Tells (fun q => acallX Try.prog X q F_subs_Right [v] h) fun r h' => r = .bool (rightS l) ∧ Ext [] h h' := by
  refine R_subs_Right _ (hX _ _ rfl) ?_
  refine Tells.prot fun Q' hQ => ?_
  unfold S_subs_Right
  simp [o.len]
  refine Tells.bind (Tells.loop (fun k t g => ∃ i m : Nat, t 0 = v ∧ t 3 = I m ∧ t 6 = v ∧ t 7 = I l.length ∧ t 8 = I i ∧ i + k = l.length ∧ (∀ j, j < i → okS l j = true) ∧ Mn l i m ∧ m ≤ 3 ∧ Ext [] h g)
    (Q := fun r g => ((r.1 = .exit 0 ∧ rightS l = true) ∨ (r.1 = .ret ∧ r.2 2 = .bool false ∧ rightS l = false)) ∧ Ext [] h g) ?_ l.length _ _ ⟨0, 0, by simp, by simp, by simp, by simp, by simp, by omega, by omega, Mn.zero _ _, by omega, .refl⟩) ?_
  · rintro k t g ⟨i, m, t0, t3, t6, t7, t8, hi, hok, hm, hm3, xg⟩
    refine Tells.prot fun Q2 hQ2 => ?_
    unfold L_subs_Right_1
    have og := o.ext xg
    simp [t7, t8]
    refine Tells.cb (fun hc => ?_) (fun hc => ?_)
    · simp at hc
      obtain ⟨s, hs⟩ : ∃ s, l[i]? = some s := ⟨_, List.getElem?_eq_getElem hc⟩
      obtain ⟨b1, p1, B1, c1, q1, q2, fv, rfl, of_, _⟩ := og.at (n := 4) rfl (i := (i : Int)) (by omega) (by simpa using hs)
      have w : IntKind.i64.wrap ((i : Int) + 1) = i + 1 := wrap_id (by omega) (by omega)
      have wm : IntKind.i64.wrap ((m : Int) + 1) = m + 1 := wrap_id (by omega) (by omega)
      have q4 := q2.lda (n := 4) rfl
      simp [J_subs_Right_2, t6, t8, q1, q4]
      refine Tells.newSt (ds := sxC s fv) (by rfl) (by rfl) (by rfl) (by simp [sxC, of_.one]) fun g1 bs os x1 l1 => ?_
      simp [os.1, sxC]
      refine Tells.bind (subs_may hX (s := s) (of_.ext x1) (sz s (List.mem_of_getElem? hs))) ?_
      rintro _ g2 ⟨rfl, x2⟩
      have os2 := os.e x2
      have og2 := (og.ext x1).ext x2
      have X2 := (xg.trans x1).trans x2
      cases e1 : mayB s with
      | false =>
        try simp
        exact Tells.ok (hQ2 _ _ (.inr ⟨by simp, .inr ⟨rfl, by simp, rightS_false hc (okS_may hs e1)⟩, X2⟩))
      | true =>
        have go : ∀ (m' : Nat), okS l i = mayB s → Mn l (i + 1) m' → m' ≤ 3 → ∀ t2 : T, t2 0 = v → t2 3 = I m' → t2 6 = v → t2 7 = I l.length → t2 8 = I ((i : Int) + 1) → Q2 (.normal, t2) g2 := fun m' ho hm' h3 t2 a0 a3 a6 a7 a8 => hQ2 _ _ (.inl ⟨rfl, k - 1, by omega, i + 1, m', a0, a3, a6, a7, a8, by omega, fun j hj => by
          by_cases q : j = i
          · subst q; rw [ho, e1]
          · exact hok j (by omega), hm', h3, X2⟩)
        have bad : okS l i = false → ∀ t2 : T, t2 2 = .bool false → Q2 (.ret, t2) g2 := fun ho t2 a2 => hQ2 _ _ (.inr ⟨by simp, .inr ⟨rfl, a2, rightS_false hc ho⟩, X2⟩)
        by_cases h0 : i = 0
        · subst h0
          obtain ⟨k1, k2⟩ := okS_one hs
          simp [J_subs_Right_4, J_subs_Right_3, t8]
          exact Tells.ok (go 1 k1 k2 (by omega) _ (by simp [t0]) (by simp) (by simp [t6]) (by simp [t7]) (by simp; rfl))
        · have h0' : ((i : Int) == 0) = false := beq_eq_false_iff_ne.2 (by omega)
          have hi0 : 0 < i := by omega
          obtain ⟨p, hp⟩ : ∃ p, l[i - 1]? = some p := ⟨_, List.getElem?_eq_getElem (by omega)⟩
          have w1 : IntKind.i64.wrap ((i : Int) - 1) = ((i - 1 : Nat) : Int) := by rw [wrap_id (by omega) (by omega)]; omega
          obtain ⟨b2, p2, B2, c2, r1, r2, fw, rfl, ow, _⟩ := og2.at (n := 4) rfl (i := ((i - 1 : Nat) : Int)) (by omega) (by simpa using hp)
          have r40 := r2.cell0 (by simp [sxC])
          have r41 := r2.cell (k := 1) (by simp [sxC])
          have r42 := r2.cell (k := 2) (by simp [sxC])
          simp [sxC] at r40 r41 r42
          by_cases c1 : p.c < s.c
          · obtain ⟨k1, k2⟩ := okS_up hm hi0 hs hp c1
            simp [J_subs_Right_4, h0', w1, t0, r1, r2.get, r40, os2.1, sxC, c1, J_subs_Right_3, t8, w]
            exact Tells.ok (go 1 k1 k2 (by omega) _ (by simp [t0]) (by simp) (by simp [t6]) (by simp [t7]) (by simp))
          · simp [J_subs_Right_4, h0', w1, t0, r1, r2.get, r40, os2.1, sxC, c1, J_subs_Right_5, t3, wm]
            by_cases c2 : s.c < p.c
            · have ob := okS_bad hm hi0 hs hp c1 (by omega)
              simp [c2, w1, t0, r1, r2.get, os2.1, sxC, r40]
              exact Tells.ok (bad ob _ (by simp))
            · by_cases c3 : p.n < s.n
              · have c3' : ¬ s.n ≤ p.n := by omega
                by_cases c4 : p.b = s.b
                · by_cases c5 : m + 1 ≤ 3
                  · have c5' : ¬ (3 : Int) < (m : Int) + 1 := by omega
                    have c5'' : ¬ 3 < m + 1 := by omega
                    obtain ⟨k1, k2⟩ := okS_eq hm hi0 hs hp (by omega) c3 c4 c5
                    simp [c2, c3', w1, t0, r1, r2.get, os2.1, sxC, t3, wm, r40, r41, r42, c4, c5', c5'', J_subs_Right_3, t8, w]
                    exact Tells.ok (go (m + 1) k1 k2 c5 _ (by simp [t0]) (by simp) (by simp [t6]) (by simp [t7]) (by simp))
                  · have c5' : (3 : Int) < (m : Int) + 1 := by omega
                    have c5'' : 3 < m + 1 := by omega
                    have ob := okS_bad hm hi0 hs hp c1 (by omega)
                    simp [c2, c3', w1, t0, r1, r2.get, os2.1, sxC, t3, wm, r40, r41, r42, c4, c5', c5'']
                    exact Tells.ok (bad ob _ (by simp))
                · have c4' : (p.b != s.b) = true := by simp [c4]
                  have ob := okS_bad hm hi0 hs hp c1 (by omega)
                  simp [c2, c3', w1, t0, r1, r2.get, os2.1, sxC, t3, wm, r40, r41, r42, c4']
                  exact Tells.ok (bad ob _ (by simp))
              · have c3' : s.n ≤ p.n := by omega
                have ob := okS_bad hm hi0 hs hp c1 (by omega)
                simp [c2, c3', w1, t0, r1, r2.get, os2.1, sxC, r40, r42]
                exact Tells.ok (bad ob _ (by simp))
    · simp at hc
      exact Tells.ok (hQ2 _ _ (.inr ⟨by simp, .inl ⟨rfl, rightS_true fun j hj => hok j (by omega)⟩, xg⟩))
  · rintro ⟨ex, t⟩ g ⟨⟨rfl, he⟩ | ⟨rfl, t2, he⟩, xg⟩
    · simp [J_subs_Right_0]
      exact Tells.ok (hQ _ _ ⟨by rw [he], xg⟩)
    · have t2 : t 2 = .bool false := t2
      simp [t2]
      exact Tells.ok (hQ _ _ ⟨by rw [he], xg⟩)
end
end Go.Proofs.Ytooeiefgnhgbeaa

/-! The plain law of SubsMap: right subscriptions are a map of client and number. -/
namespace Go.Proofs.Ytooeiefgnhgbeaa
open Go.Ab

def kLt (s t : Sx) : Prop := s.c < t.c ∨ (s.c = t.c ∧ s.n < t.n)
abbrev Srt (l : List Sx) : Prop := l.Pairwise kLt
theorem sameK_iff {c n : Int} {x : Sx} : sameK c n x = true ↔ x.c = c ∧ x.n = n := by simp [sameK]
theorem sameK_no {c n : Int} {x : Sx} : sameK c n x = false ↔ ¬ (x.c = c ∧ x.n = n) := by
  rw [← sameK_iff]; simp
theorem kLt_ne {s t : Sx} (h : kLt s t) : ¬ (t.c = s.c ∧ t.n = s.n) := by unfold kLt at h; omega
theorem kLt_trans {s t u : Sx} (h : kLt s t) (k : kLt t u) : kLt s u := by unfold kLt at *; omega

theorem mem_gone {l : List Sx} {c n : Int} {y : Sx} : y ∈ goneL l c n ↔ y ∈ l ∧ sameK c n y = false := by simp [goneL]
theorem mem_ins {s y : Sx} : ∀ {l : List Sx}, y ∈ insB s l ↔ y = s ∨ y ∈ l
  | [] => by simp [insB]
  | x :: r => by
    unfold insB
    split
    · rw [List.mem_cons, mem_ins, List.mem_cons]
      constructor
      · rintro (h | h | h)
        · exact .inr (.inl h)
        · exact .inl h
        · exact .inr (.inr h)
      · rintro (h | h | h)
        · exact .inr (.inl h)
        · exact .inl h
        · exact .inr (.inr h)
    · simp
theorem mem_set {s y : Sx} : ∀ {l : List Sx}, Srt l → l.any (sameK s.c s.n) = true → (y ∈ setF s l ↔ y = s ∨ (y ∈ l ∧ sameK s.c s.n y = false))
  | [], _, h => by simp at h
  | x :: r, hs, h => by
    obtain ⟨h1, h2⟩ := List.pairwise_cons.1 hs
    unfold setF
    cases hx : sameK s.c s.n x with
    | true =>
      rw [if_pos rfl, List.mem_cons]
      have kx := sameK_iff.1 hx
      constructor
      · rintro (q | q)
        · exact .inl q
        · refine .inr ⟨by simp [q], sameK_no.2 fun k => kLt_ne (h1 y q) ⟨by omega, by omega⟩⟩
      · rintro (q | ⟨q, k⟩)
        · exact .inl q
        · rcases List.mem_cons.1 q with q | q
          · subst q; rw [hx] at k; cases k
          · exact .inr q
    | false =>
      rw [if_neg (by simp), List.mem_cons, mem_set h2 (by simpa [hx] using h), List.mem_cons]
      constructor
      · rintro (q | q | ⟨q, k⟩)
        · exact .inr ⟨.inl q, by rw [q]; exact hx⟩
        · exact .inl q
        · exact .inr ⟨.inr q, k⟩
      · rintro (q | ⟨q | q, k⟩)
        · exact .inr (.inl q)
        · exact .inl q
        · exact .inr (.inr ⟨q, k⟩)
theorem mem_come {l : List Sx} {s y : Sx} (hs : Srt l) : y ∈ comeL l s ↔ y = s ∨ (y ∈ l ∧ sameK s.c s.n y = false) := by
  unfold comeL
  by_cases h : l.any (sameK s.c s.n) = true
  · rw [if_pos h]; exact mem_set hs h
  · rw [if_neg h, mem_ins]
    have : ∀ z, z ∈ l → sameK s.c s.n z = false := fun z hz => by
      cases k : sameK s.c s.n z with
      | false => rfl
      | true => exact absurd (List.any_eq_true.2 ⟨z, hz, k⟩) h
    constructor
    · rintro (q | q)
      · exact .inl q
      · exact .inr ⟨q, this y q⟩
    · rintro (q | q)
      · exact .inl q
      · exact .inr q.1

theorem Srt.gone {l : List Sx} (h : Srt l) (c n : Int) : Srt (goneL l c n) := h.filter _
theorem Srt.set {s : Sx} : ∀ {l : List Sx}, Srt l → Srt (setF s l)
  | [], _ => by simp [setF]
  | x :: r, h => by
    obtain ⟨h1, h2⟩ := List.pairwise_cons.1 h
    unfold setF
    cases hx : sameK s.c s.n x with
    | true =>
      rw [if_pos rfl]
      have kx := sameK_iff.1 hx
      refine List.pairwise_cons.2 ⟨fun y hy => ?_, h2⟩
      have := h1 y hy
      unfold kLt at *; omega
    | false =>
      rw [if_neg (by simp)]
      refine List.pairwise_cons.2 ⟨fun y hy => ?_, Srt.set h2⟩
      by_cases ha : r.any (sameK s.c s.n) = true
      · rcases (mem_set h2 ha).1 hy with q | q
        · subst q
          obtain ⟨z, hz, kz⟩ := List.any_eq_true.1 ha
          have := h1 z hz
          have kz := sameK_iff.1 kz
          unfold kLt at *; omega
        · exact h1 y q.1
      · have e : ∀ {r : List Sx}, ¬ r.any (sameK s.c s.n) = true → setF s r = r := by
          intro r
          induction r with
          | nil => intro _; rfl
          | cons z r ih =>
            intro hn
            simp only [List.any_cons, Bool.or_eq_true, not_or] at hn
            unfold setF
            rw [if_neg hn.1, ih hn.2]
        rw [e ha] at hy
        exact h1 y hy
theorem Srt.ins {s : Sx} : ∀ {l : List Sx}, Srt l → (∀ y, y ∈ l → sameK s.c s.n y = false) → Srt (insB s l)
  | [], _, _ => by simp [insB]
  | x :: r, h, hn => by
    obtain ⟨h1, h2⟩ := List.pairwise_cons.1 h
    have kx := sameK_no.1 (hn x (by simp))
    unfold insB
    by_cases hx : ltK s.c s.n x = true
    · rw [if_pos hx]
      refine List.pairwise_cons.2 ⟨fun y hy => ?_, Srt.ins h2 fun y hy => hn y (by simp [hy])⟩
      rcases mem_ins.1 hy with q | q
      · subst q
        simp [ltK] at hx
        unfold kLt; omega
      · exact h1 y q
    · rw [if_neg hx]
      simp [ltK] at hx
      have sx : kLt s x := by unfold kLt; omega
      refine List.pairwise_cons.2 ⟨fun y hy => ?_, h⟩
      rcases List.mem_cons.1 hy with q | q
      · subst q; exact sx
      · exact kLt_trans sx (h1 y q)
theorem Srt.come {l : List Sx} (h : Srt l) (s : Sx) : Srt (comeL l s) := by
  unfold comeL
  by_cases k : l.any (sameK s.c s.n) = true
  · rw [if_pos k]; exact h.set
  · rw [if_neg k]
    refine h.ins fun y hy => ?_
    cases q : sameK s.c s.n y with
    | false => rfl
    | true => exact absurd (List.any_eq_true.2 ⟨y, hy, q⟩) k
theorem Srt.app {l : List Sx} (h : Srt l) (g : Cg) : Srt (appL l g) := by
  unfold appL
  split
  · exact h.gone _ _
  · exact h.come _
theorem Srt.fold : ∀ (ch : List Cg) {l : List Sx}, Srt l → Srt (ch.foldl appL l)
  | [], _, h => h
  | g :: ch, _, h => Srt.fold ch (h.app g)
theorem mem_app {l : List Sx} {g : Cg} {y : Sx} (hs : Srt l) (h : y ∈ appL l g) : y ∈ l ∨ y = g.s := by
  unfold appL at h
  split at h
  · exact .inl (mem_gone.1 h).1
  · rcases (mem_come hs).1 h with q | q
    · exact .inr q
    · exact .inl q.1
theorem mem_fold {P : Sx → Prop} : ∀ (ch : List Cg) {l : List Sx}, Srt l → (∀ y, y ∈ l → P y) → (∀ g, g ∈ ch → P g.s) → ∀ y, y ∈ ch.foldl appL l → P y
  | [], _, _, h, _, y, hy => h y hy
  | g :: ch, l, hs, h, hc, y, hy => mem_fold ch (hs.app g) (fun z hz => by
      rcases mem_app hs hz with q | q
      · exact h z q
      · rw [q]; exact hc g (by simp)) (fun g' hg' => hc g' (by simp [hg'])) y hy

/-- Is there one of that client and number, and which? -/
def Kn21 (c n : Int) (st : Bool × Sx) (l : List Sx) : Prop := st.1 = l.any (sameK c n) ∧ ∀ y, y ∈ l → sameK c n y = true → st.2 = y
def step21 (c n : Int) (st : Bool × Sx) (g : Cg) : Bool × Sx := if sameK c n g.s = true then (!g.gone, g.s) else st
theorem any_of {p : Sx → Bool} {l m : List Sx} (h : ∀ y, p y = true → (y ∈ l ↔ y ∈ m)) : l.any p = m.any p := by
  rw [Bool.eq_iff_iff, List.any_eq_true, List.any_eq_true]
  constructor
  · rintro ⟨y, h1, h2⟩; exact ⟨y, (h y h2).1 h1, h2⟩
  · rintro ⟨y, h1, h2⟩; exact ⟨y, (h y h2).2 h1, h2⟩
theorem Kn21.step {c n : Int} {st : Bool × Sx} {l : List Sx} (k : Kn21 c n st l) (hs : Srt l) (g : Cg) : Kn21 c n (step21 c n st g) (appL l g) := by
  obtain ⟨k1, k2⟩ := k
  unfold step21 appL
  cases hg : sameK c n g.s with
  | true =>
    have kg := sameK_iff.1 hg
    rw [if_pos rfl]
    cases hgo : g.gone with
    | true =>
      rw [if_pos rfl, kg.1, kg.2]
      refine ⟨?_, fun y hy ky => ?_⟩
      · symm
        show List.any _ _ = false
        rw [List.any_eq_false]
        intro y hy
        rw [(mem_gone.1 hy).2]
        simp
      · rw [(mem_gone.1 hy).2] at ky; cases ky
    | false =>
      rw [if_neg (by simp)]
      refine ⟨?_, fun y hy ky => ?_⟩
      · symm
        exact List.any_eq_true.2 ⟨g.s, (mem_come hs).2 (.inl rfl), hg⟩
      · rcases (mem_come hs).1 hy with q | ⟨_, q⟩
        · exact q.symm
        · rw [kg.1, kg.2, ky] at q; cases q
  | false =>
    have ng := sameK_no.1 hg
    rw [if_neg (by simp)]
    have key : ∀ y, sameK c n y = true → (y ∈ l ↔ y ∈ (if g.gone = true then goneL l g.s.c g.s.n else comeL l g.s)) := fun y ky => by
      have ky' := sameK_iff.1 ky
      have no : sameK g.s.c g.s.n y = false := sameK_no.2 fun q => ng ⟨by omega, by omega⟩
      split
      · rw [mem_gone]; exact ⟨fun q => ⟨q, no⟩, fun q => q.1⟩
      · rw [mem_come hs]
        constructor
        · exact fun q => .inr ⟨q, no⟩
        · rintro (q | q)
          · subst q; exact absurd ky' ng
          · exact q.1
    exact ⟨by rw [k1]; exact any_of key, fun y hy ky => k2 y ((key y ky).2 hy) ky⟩

/-- The last one of a row that has it. -/
def lastS (c n : Int) (x : Sx) (l : List Sx) : Sx := l.foldl (fun x s => if sameK c n s = true then s else x) x
theorem lastS_none {c n : Int} : ∀ {l : List Sx} {x : Sx}, (∀ y, y ∈ l → sameK c n y = false) → lastS c n x l = x
  | [], _, _ => rfl
  | y :: l, x, h => by
    unfold lastS
    rw [List.foldl_cons, if_neg (by simp [h y])]
    exact lastS_none fun z hz => h z (by simp [hz])
theorem lastS_mem {c n : Int} : ∀ {l : List Sx} {x y : Sx}, Srt l → y ∈ l → sameK c n y = true → lastS c n x l = y
  | [], _, _, _, h, _ => by simp at h
  | z :: l, x, y, hs, hy, ky => by
    obtain ⟨h1, h2⟩ := List.pairwise_cons.1 hs
    unfold lastS
    rw [List.foldl_cons]
    rcases List.mem_cons.1 hy with q | q
    · subst q
      rw [if_pos ky]
      refine lastS_none fun w hw => ?_
      have := kLt_ne (h1 w hw)
      have k := sameK_iff.1 ky
      exact sameK_no.2 fun q => this ⟨by omega, by omega⟩
    · exact lastS_mem h2 q ky
theorem Kn21.start {l : List Sx} (hs : Srt l) (c n : Int) (x : Sx) : Kn21 c n (l.any (sameK c n), lastS c n x l) l := ⟨rfl, fun y hy ky => lastS_mem hs hy ky⟩

/-! ### how many -/
def keyI (i : Nat) : Sx → Bool := sameK ((i / 9 : Nat) + 1 : Int) ((i % 9 : Nat) + 1 : Int)
def cnt21 (l : List Sx) (j : Nat) : Nat := (List.range j).countP fun i => l.any (keyI i)
theorem cnt21_succ (l : List Sx) (j : Nat) : cnt21 l (j + 1) = cnt21 l j + if l.any (keyI j) = true then 1 else 0 := by
  unfold cnt21
  rw [List.range_succ, List.countP_append, List.countP_cons, List.countP_nil]
  simp
theorem one54 : ∀ k, k < 54 → ((List.range 54).countP fun i => i == k) = 1 := by decide
theorem cnt21_len : ∀ {l : List Sx}, Srt l → (∀ s, s ∈ l → 1 ≤ s.c ∧ s.c ≤ 6 ∧ 1 ≤ s.n ∧ s.n ≤ 9) → cnt21 l 54 = l.length
  | [], _, _ => by
    unfold cnt21
    simp
  | x :: r, hs, h => by
    obtain ⟨h1, h2⟩ := List.pairwise_cons.1 hs
    have ih := cnt21_len h2 fun s hs => h s (by simp [hs])
    obtain ⟨a1, a2, a3, a4⟩ := h x (by simp)
    unfold cnt21 at *
    have split : ∀ (L : List Nat), L.countP (fun i => keyI i x || r.any (keyI i)) = L.countP (fun i => keyI i x) + L.countP fun i => r.any (keyI i) := by
      intro L
      induction L with
      | nil => rfl
      | cons i L ihL =>
        simp only [List.countP_cons, ihL]
        cases p : keyI i x with
        | false => simp only [Bool.false_or, Bool.false_eq_true, if_false]; omega
        | true =>
          have : r.any (keyI i) = false := by
            rw [List.any_eq_false]
            intro y hy
            have k1 := sameK_iff.1 p
            have k2 := kLt_ne (h1 y hy)
            simp only [keyI, Bool.not_eq_true]
            exact sameK_no.2 fun q => k2 ⟨by omega, by omega⟩
          rw [this]; simp; omega
    have e : (List.range 54).countP (fun i => keyI i x) = 1 := by
      rw [← one54 (9 * (x.c - 1).toNat + (x.n - 1).toNat) (by omega)]
      refine List.countP_congr fun i hi => ?_
      have hi := List.mem_range.1 hi
      rw [keyI, sameK_iff, beq_iff_eq]
      constructor
      · intro q; omega
      · intro q; omega
    have e0 : (List.range 54).countP (fun i => (x :: r).any (keyI i)) = (List.range 54).countP (fun i => keyI i x || r.any (keyI i)) := by simp only [List.any_cons]
    rw [e0, split, ih, e, List.length_cons]
    omega
end Go.Proofs.Ytooeiefgnhgbeaa

/-! What precentorref9's In and Put tell. -/
namespace Go.Proofs.Ytooeiefgnhgbeaa
open Go.Ab

section
variable {X : XTab}

def putL (xs : List Int) (p : Int) : List Int := if xs.any (· == p) = true then xs else xs.takeWhile (fun x => decide (x < p)) ++ [p] ++ xs.filter (fun x => decide (p < x))

theorem ref_In (hX : OnlyKnown X) {h : Heap} {v : AVal} {xs : List Int} (o : Sl intR h v xs) (hl : xs.length < 2 ^ 62) (a : Int) :
    Tells (fun q => acallX Try.prog X q F_precentorref9_In [v, I a] h) fun r h' => r = .bool (xs.any (· == a)) ∧ h' = h := by
  refine R_precentorref9_In _ _ (hX _ _ rfl) ?_
  refine Tells.prot fun Q' hQ => ?_
  unfold S_precentorref9_In
  simp
  refine Tells.bind (Tells.loop (fun n t g => ∃ i : Nat, t 0 = v ∧ t 1 = I a ∧ t 5 = I i ∧ i + n = xs.length ∧ g = h ∧ (xs.any (· == a)) = ((xs.drop i).any (· == a)))
    (Q := fun p g => g = h ∧ ((p.1 = .exit 0 ∧ (xs.any (· == a)) = false) ∨ (p.1 = .ret ∧ p.2 4 = .bool true ∧ (xs.any (· == a)) = true))) ?_ xs.length _ _ ?_) ?_
  · rintro n t g ⟨i, t0, t1, t5, hi, rfl, ha⟩
    refine Tells.prot fun Q2 hQ2 => ?_
    unfold L_precentorref9_In_1
    simp [t5, t0, o.len]
    refine Tells.cb (fun hc => ?_) (fun hc => ?_)
    · simp at hc
      obtain ⟨x, hdi⟩ : ∃ d, xs[i]? = some d := ⟨_, List.getElem?_eq_getElem hc⟩
      have hd : xs.drop i = x :: xs.drop (i + 1) := by
        rw [List.drop_eq_getElem_cons hc]; congr 1; exact (List.getElem?_eq_some_iff.1 hdi).2
      obtain ⟨b, pp, B, q1, q2, q3⟩ := o.atI hdi
      have w : IntKind.i64.wrap ((i : Int) + 1) = i + 1 := wrap_id (by omega) (by omega)
      rw [hd, List.any_cons] at ha
      by_cases e : x = a
      · subst e
        simp [J_precentorref9_In_2, t0, t5, t1, q1, q2, q3]
        exact Tells.ok (hQ2 _ _ (.inr ⟨by simp, rfl, .inr ⟨rfl, by simp, by rw [ha]; simp⟩⟩))
      · simp [J_precentorref9_In_2, t0, t5, t1, q1, q2, q3, e, beq_eq_false_iff_ne.2 e, J_precentorref9_In_3, w]
        exact Tells.ok (hQ2 _ _ (.inl ⟨rfl, n - 1, by omega, i + 1, by simp [t0], by simp [t1], by simp, by omega, rfl, by rw [ha, beq_eq_false_iff_ne.2 e]; rfl⟩))
    · simp at hc
      exact Tells.ok (hQ2 _ _ (.inr ⟨by simp, rfl, .inl ⟨rfl, by rw [ha, List.drop_eq_nil_of_le (by omega)]; rfl⟩⟩))
  · exact ⟨0, by simp, by simp, by simp, by omega, rfl, rfl⟩
  · rintro ⟨ex, t⟩ g ⟨rfl, ⟨rfl, q⟩ | ⟨rfl, q, q'⟩⟩
    · simp [J_precentorref9_In_0]
      exact Tells.ok (hQ _ _ ⟨by rw [q], rfl⟩)
    · simp only at q
      simp [q]
      exact Tells.ok (hQ _ _ ⟨by rw [q'], rfl⟩)

theorem tw_at {xs : List Int} {i : Nat} {x : Int} (h : xs[i]? = some x) (f : Int → Bool) : (xs.drop i).takeWhile f = if f x = true then x :: (xs.drop (i + 1)).takeWhile f else [] := by
  have hlt := (List.getElem?_eq_some_iff.1 h).1
  rw [List.drop_eq_getElem_cons hlt, (List.getElem?_eq_some_iff.1 h).2, List.takeWhile_cons]

theorem ref_Put (hX : OnlyKnown X) {h : Heap} {v : AVal} {xs : List Int} (o : Sl intR h v xs) (hl : xs.length < 2 ^ 30) (p : Int) :
    Tells (fun q => acallX Try.prog X q F_precentorref9_Put [v, I p] h) fun a h' => Sl intR h' a (putL xs p) ∧ Ext [] h h' := by
  refine R_precentorref9_Put _ _ (hX _ _ rfl) ?_
  refine Tells.prot fun Q' hQ => ?_
  unfold S_precentorref9_Put
  simp
  refine Tells.bind (ref_In hX o (by omega) p) ?_
  rintro _ h ⟨rfl, rfl⟩
  cases hin : xs.any (· == p) with
  | true =>
    simp
    refine Tells.ok (hQ _ _ ⟨?_, .refl⟩)
    unfold putL
    rw [if_pos hin]
    exact o
  | false =>
    have hp : putL xs p = xs.takeWhile (fun x => decide (x < p)) ++ [p] ++ xs.filter (fun x => decide (p < x)) := by
      unfold putL
      rw [if_neg (by rw [hin]; simp)]
    simp [J_precentorref9_Put_0]
    refine Tells.bind (Tells.loop (fun n t g => ∃ i : Nat, t 0 = v ∧ t 1 = I p ∧ t 6 = I i ∧ i + n = xs.length ∧ Gl intR h g (t 5) (xs.take i) ∧ Ext [] h g ∧ xs.takeWhile (fun x => decide (x < p)) = xs.take i ++ (xs.drop i).takeWhile (fun x => decide (x < p)))
      (Q := fun r g => r.1 = .exit 0 ∧ r.2 0 = v ∧ r.2 1 = I p ∧ Gl intR h g (r.2 5) (xs.takeWhile (fun x => decide (x < p))) ∧ Ext [] h g) ?_ xs.length _ _ ?_) ?_
    · rintro n t g ⟨i, t0, t1, t6, hi, go, x, htw⟩
      refine Tells.prot fun Q2 hQ2 => ?_
      have og := o.ext x
      unfold L_precentorref9_Put_6
      simp [t6, t0, og.len]
      by_cases hc : i < xs.length
      · obtain ⟨y, hdi⟩ : ∃ d, xs[i]? = some d := ⟨_, List.getElem?_eq_getElem hc⟩
        obtain ⟨b, pp, B, q1, q2, q3⟩ := og.atI hdi
        have w : IntKind.i64.wrap ((i : Int) + 1) = i + 1 := wrap_id (by omega) (by omega)
        rw [tw_at hdi] at htw
        by_cases hy : y < p
        · rw [if_pos (by simpa using hy)] at htw
          simp [hc, t0, t6, q1, q2, q3, t1, hy, J_precentorref9_Put_7]
          refine Tells.app1 go (by rfl) (by rfl) (show intR.rep g [I y] y from rfl) (by rfl) (by rfl) (by simp; omega) (by decide) x.next fun s6 h6 g6 x6 y6 z6 => ?_
          simp [J_precentorref9_Put_8, t6, w]
          have htk : xs.take (i + 1) = xs.take i ++ [y] := by rw [List.take_add_one, hdi]; rfl
          exact Tells.ok (hQ2 _ _ (.inl ⟨rfl, n - 1, by omega, i + 1, by simp [t0], by simp [t1], by simp, by omega, by rw [htk]; simpa using g6, y6 [] x, by rw [htw, htk]; simp⟩))
        · rw [if_neg (by simpa using hy)] at htw
          simp [hc, t0, t6, q1, q2, q3, t1, hy]
          exact Tells.ok (hQ2 _ _ (.inr ⟨by simp, rfl, by simp [t0], by simp [t1], by rw [htw]; simpa using go, x⟩))
      · simp [hc]
        rw [List.drop_eq_nil_of_le (by omega)] at htw
        exact Tells.ok (hQ2 _ _ (.inr ⟨by simp, rfl, by simp [t0], by simp [t1], by rw [htw]; simpa using go, x⟩))
    · exact ⟨0, by simp, by simp, by simp, by omega, by simpa using Gl.nil, .refl, by simp⟩
    · rintro ⟨ex, t⟩ g ⟨rfl, t0, t1, go, x⟩
      simp only at t0 t1 go
      have hle : (xs.takeWhile (fun x => decide (x < p))).length ≤ xs.length := (List.takeWhile_prefix _).length_le
      generalize xs.takeWhile (fun x => decide (x < p)) = ys at go hp hle
      simp [J_precentorref9_Put_1, t1]
      refine Tells.app1 go (by rfl) (by rfl) (show intR.rep g [I p] p from rfl) (by rfl) (by rfl) (by omega) (by decide) x.next fun s6 h6 g6 x6 y6 z6 => ?_
      have xg6 := y6 [] x
      try simp
      refine Tells.bind (Tells.loop (fun n t g => ∃ i : Nat, t 0 = v ∧ t 1 = I p ∧ t 7 = I i ∧ i + n = xs.length ∧ Gl intR h g (t 5) (ys ++ [p] ++ (xs.take i).filter (fun x => decide (p < x))) ∧ Ext [] h g)
        (Q := fun r g => r.1 = .exit 2 ∧ Gl intR h g (r.2 5) (ys ++ [p] ++ xs.filter (fun x => decide (p < x))) ∧ Ext [] h g) ?_ xs.length _ _ ?_) ?_
      · rintro n t g ⟨i, t0, t1, t7, hi, go, x⟩
        refine Tells.prot fun Q2 hQ2 => ?_
        have og := o.ext x
        unfold L_precentorref9_Put_3
        simp [t7, t0, og.len]
        refine Tells.cb (fun hc => ?_) (fun hc => ?_)
        · simp at hc
          obtain ⟨y, hdi⟩ : ∃ d, xs[i]? = some d := ⟨_, List.getElem?_eq_getElem hc⟩
          obtain ⟨b, pp, B, q1, q2, q3⟩ := og.atI hdi
          have w : IntKind.i64.wrap ((i : Int) + 1) = i + 1 := wrap_id (by omega) (by omega)
          have hfl : ((xs.take i).filter (fun x => decide (p < x))).length ≤ i := Nat.le_trans (List.length_filter_le _ _) (by simp; omega)
          have htk : (xs.take (i + 1)).filter (fun x => decide (p < x)) = (xs.take i).filter (fun x => decide (p < x)) ++ if p < y then [y] else [] := by
            rw [List.take_add_one, hdi]; simp [List.filter_append, List.filter_cons]
          by_cases hy : p < y
          · rw [if_pos hy] at htk
            simp [J_precentorref9_Put_4, t0, t7, q1, q2, q3, t1, hy]
            refine Tells.app1 go (by rfl) (by rfl) (show intR.rep g [I y] y from rfl) (by rfl) (by rfl) (by simp only [List.length_append, List.length_singleton]; omega) (by decide) x.next fun s8 h8 g8 x8 y8 z8 => ?_
            simp [J_precentorref9_Put_5, t7, w]
            exact Tells.ok (hQ2 _ _ (.inl ⟨rfl, n - 1, by omega, i + 1, by simp [t0], by simp [t1], by simp, by omega, by rw [htk]; simpa using g8, y8 [] x⟩))
          · rw [if_neg hy] at htk
            simp [J_precentorref9_Put_4, t0, t7, q1, q2, q3, t1, hy, J_precentorref9_Put_5, w]
            exact Tells.ok (hQ2 _ _ (.inl ⟨rfl, n - 1, by omega, i + 1, by simp [t0], by simp [t1], by simp, by omega, by rw [htk]; simpa using go, x⟩))
        · simp at hc
          rw [List.take_of_length_le (by omega)] at go
          exact Tells.ok (hQ2 _ _ (.inr ⟨by simp, rfl, by simpa using go, x⟩))
      · exact ⟨0, by simp [t0], by simp [t1], by simp, by omega, by simpa using g6, xg6⟩
      · rintro ⟨ex, t⟩ g ⟨rfl, go, x⟩
        simp only at go
        simp [J_precentorref9_Put_2]
        exact Tells.ok (hQ _ _ ⟨by rw [hp]; exact go.1, x⟩)

end
end Go.Proofs.Ytooeiefgnhgbeaa

/-! SubsTells: the document's RightSubs, Has, Of, Apply. -/
namespace Go.Proofs.Ytooeiefgnhgbeaa
open Go.Ab

section
variable {X : XTab}

theorem ref_between (hX : OnlyKnown X) (n a b : Int) (h : Heap) : Tells (fun q => acallX Try.prog X q F_precentorref9_between [I n, I a, I b] h) fun r h' => r = .bool (decide (a ≤ n) && decide (n ≤ b)) ∧ h' = h := by
  refine R_precentorref9_between _ _ _ (hX _ _ rfl) ?_
  unfold S_precentorref9_between
  by_cases c1 : a ≤ n
  · simp [c1]
    exact Tells.ok ⟨rfl, rfl⟩
  · simp [c1]
    exact Tells.ok ⟨rfl, rfl⟩

theorem ref_Has (hX : OnlyKnown X) {h : Heap} {v : AVal} {l : List Sx} {Z : Nat → Prop} (o : Sl (sxZ Z) h v l) (hl : l.length ≤ 1000) (cl nu : Int) :
    Tells (fun q => acallX Try.prog X q F_precentorref9_Has [v, I cl, I nu] h) fun r h' => r = .bool (l.any (sameK cl nu)) ∧ h' = h := by
  refine R_precentorref9_Has _ _ _ (hX _ _ rfl) ?_
  refine Tells.prot fun Q' hQ => ?_
  unfold S_precentorref9_Has
  try simp
  refine Tells.bind (Tells.loop (fun n t g => g = h ∧ ∃ i : Nat, t 0 = v ∧ t 1 = I cl ∧ t 2 = I nu ∧ t 7 = I i ∧ i + n = l.length ∧ (∀ y, y ∈ l.take i → sameK cl nu y = false))
    (Q := fun p g => g = h ∧ ((p.1 = .exit 0 ∧ l.any (sameK cl nu) = false) ∨ (p.1 = .ret ∧ p.2 6 = .bool true ∧ l.any (sameK cl nu) = true))) ?_ l.length _ _ ⟨rfl, 0, by simp, by simp, by simp, by simp, by omega, by simp⟩) ?_
  · rintro n t g ⟨rfl, i, t0, t1, t2, t7, hi, hno⟩
    refine Tells.prot fun Q2 hQ2 => ?_
    unfold L_precentorref9_Has_1
    simp [t0, t7, o.len]
    refine Tells.cb (fun hc => ?_) (fun hc => ?_)
    · simp at hc
      obtain ⟨s, hs⟩ : ∃ s, l[i]? = some s := ⟨_, List.getElem?_eq_getElem hc⟩
      obtain ⟨b, q, B, c, q1, q2, fv, rfl, of_, _⟩ := o.at (n := 4) rfl (i := (i : Int)) (by omega) (by simpa using hs)
      have w : IntKind.i64.wrap ((i : Int) + 1) = i + 1 := wrap_id (by omega) (by omega)
      have q40 := q2.cell0 (by simp [sxC])
      have q42 := q2.cell (k := 2) (by simp [sxC])
      simp [sxC] at q40 q42
      have go : sameK cl nu s = false → ∀ t' : T, t' 0 = v → t' 1 = I cl → t' 2 = I nu → t' 7 = I i → Tells (fun m => J_precentorref9_Has_3 Try.prog (acallX Try.prog X m) m okK t' g) Q2 := fun e t' a0 a1 a2 a7 => by
        simp [J_precentorref9_Has_3, a7, w]
        refine Tells.ok (hQ2 _ _ (.inl ⟨rfl, n - 1, by omega, rfl, i + 1, by simp [a0], by simp [a1], by simp [a2], by simp, by omega, fun y hy => ?_⟩))
        rw [List.take_add_one, hs] at hy
        rcases List.mem_append.1 hy with k | k
        · exact hno y k
        · simp at k; subst k; exact e
      by_cases c1 : s.c = cl
      · by_cases c2 : s.n = nu
        · have e : sameK cl nu s = true := by simp [sameK, c1, c2]
          simp [J_precentorref9_Has_2, t0, t1, t2, t7, q1, q2.get, q40, q42, c1, c2]
          exact Tells.ok (hQ2 _ _ (.inr ⟨by simp, rfl, .inr ⟨rfl, by simp, List.any_eq_true.2 ⟨s, List.mem_of_getElem? hs, e⟩⟩⟩))
        · have e : sameK cl nu s = false := by simp [sameK, c2]
          simp [J_precentorref9_Has_2, t0, t1, t2, t7, q1, q2.get, q40, q42, c1, beq_eq_false_iff_ne.2 c2]
          exact go e _ (by simp [t0]) (by simp [t1]) (by simp [t2]) (by simp [t7])
      · have e : sameK cl nu s = false := by simp [sameK, c1]
        simp [J_precentorref9_Has_2, t0, t1, t2, t7, q1, q2.get, q40, q42, beq_eq_false_iff_ne.2 c1]
        exact go e _ (by simp [t0]) (by simp [t1]) (by simp [t2]) (by simp [t7])
    · simp at hc
      exact Tells.ok (hQ2 _ _ (.inr ⟨by simp, rfl, .inl ⟨rfl, any_take hno (by omega)⟩⟩))
  · rintro ⟨ex, t⟩ g ⟨rfl, ⟨rfl, hno⟩ | ⟨rfl, t6, hyes⟩⟩
    · simp [J_precentorref9_Has_0]
      exact Tells.ok (hQ _ _ ⟨by rw [hno], rfl⟩)
    · have t6 : t 6 = .bool true := t6
      simp [t6]
      exact Tells.ok (hQ _ _ ⟨by rw [hyes], rfl⟩)

theorem ref_Of (hX : OnlyKnown X) {h : Heap} {v : AVal} {l : List Sx} (o : Sl sxR h v l) (hl : l.length ≤ 1000) (cl : Int) :
    Tells (fun q => acallX Try.prog X q F_precentorref9_Of [v, I cl] h) fun r h' => Sl sxR h' r (ofL l cl) ∧ Ext [] h h' := by
  refine R_precentorref9_Of _ _ (hX _ _ rfl) ?_
  refine Tells.prot fun Q' hQ => ?_
  unfold S_precentorref9_Of
  try simp
  refine Tells.bind (Tells.loop (fun n t g => ∃ i : Nat, t 0 = v ∧ t 1 = I cl ∧ t 6 = I i ∧ i + n = l.length ∧ Gl sxR h g (t 5) (ofL (l.take i) cl) ∧ Ext [] h g)
    (Q := fun p g => p.1 = .exit 0 ∧ Sl sxR g (p.2 5) (ofL l cl) ∧ Ext [] h g) ?_ l.length _ _ ⟨0, by simp, by simp, by simp, by omega, by simpa [ofL] using Gl.nil, .refl⟩) ?_
  · rintro n t g ⟨i, t0, t1, t6, hi, gl, xg⟩
    refine Tells.prot fun Q2 hQ2 => ?_
    unfold L_precentorref9_Of_1
    have og := o.ext xg
    simp [t0, t6, og.len]
    refine Tells.cb (fun hc => ?_) (fun hc => ?_)
    · simp at hc
      obtain ⟨s, hs⟩ : ∃ s, l[i]? = some s := ⟨_, List.getElem?_eq_getElem hc⟩
      obtain ⟨b, q, B, c, q1, q2, fv, rfl, of_, _⟩ := og.at (n := 4) rfl (i := (i : Int)) (by omega) (by simpa using hs)
      have w : IntKind.i64.wrap ((i : Int) + 1) = i + 1 := wrap_id (by omega) (by omega)
      have q40 := q2.cell0 (by simp [sxC])
      simp [sxC] at q40
      have q4 := q2.lda (n := 4) rfl
      have q4b : (if q + 4 ≤ B.length then some (AVal.agg (List.take 4 (List.drop q B))) else none) = some (.agg (sxC s fv)) := by
        have := q4
        simpa [q2.get] using this
      have tk : ofL (l.take (i + 1)) cl = ofL (l.take i) cl ++ (if s.c = cl then [s] else []) := by
        rw [List.take_add_one, hs]
        unfold ofL
        rw [List.filter_append]
        congr 1
        by_cases e : s.c = cl <;> simp [e]
      have len2 : (ofL (l.take i) cl).length ≤ l.length := by
        refine Nat.le_trans (List.length_filter_le _ _) ?_
        simp; omega
      by_cases e : s.c = cl
      · simp [J_precentorref9_Of_2, t0, t1, t6, q1, q2.get, q40, e, q4b]
        refine Tells.app1 gl (by rfl) (by rfl) (show sxR.rep g (sxC s fv) s from ⟨fv, rfl, of_, fun _ _ => trivial⟩) (by rfl) (by rfl) (by omega) (by decide) xg.next fun s4 g4 gl4 x4 y4 _ => ?_
        simp [J_precentorref9_Of_3, t6, w]
        exact Tells.ok (hQ2 _ _ (.inl ⟨rfl, n - 1, by omega, i + 1, by simp [t0], by simp [t1], by simp, by omega, by rw [tk, if_pos e]; simpa using gl4, y4 [] xg⟩))
      · simp [J_precentorref9_Of_2, t0, t1, t6, q1, q2.get, q40, beq_eq_false_iff_ne.2 e, J_precentorref9_Of_3, w]
        exact Tells.ok (hQ2 _ _ (.inl ⟨rfl, n - 1, by omega, i + 1, by simp [t0], by simp [t1], by simp, by omega, by rw [tk, if_neg e]; simpa using gl, xg⟩))
    · simp at hc
      have hfl : l.take i = l := List.take_of_length_le (by omega)
      rw [hfl] at gl
      exact Tells.ok (hQ2 _ _ (.inr ⟨by simp, rfl, by simpa using gl.1, xg⟩))
  · rintro ⟨ex, t⟩ g ⟨rfl, sl, xg⟩
    simp [J_precentorref9_Of_0]
    exact Tells.ok (hQ _ _ ⟨by simpa using sl, xg⟩)

theorem ref_RightSubs (hX : OnlyKnown X) {h : Heap} {v : AVal} {l : List Sx} (o : Sl sxR h v l) (hl : l.length ≤ 1000) (sz : ∀ s, s ∈ l → SzR s) : Tells (fun q => acallX Try.prog X q F_precentorref9_RightSubs [v] h) fun r h' => r = .bool (rightS l) ∧ Ext [] h h' := by
  refine R_precentorref9_RightSubs _ (hX _ _ rfl) ?_
  refine Tells.prot fun Q' hQ => ?_
  unfold S_precentorref9_RightSubs
  try simp
  refine Tells.bind (Tells.loop (fun k t g => ∃ i : Nat, t 0 = v ∧ t 3 = I i ∧ i + k = l.length ∧ (∀ j, j < i → okS l j = true) ∧ Ext [] h g)
    (Q := fun r g => ((r.1 = .exit 0 ∧ rightS l = true) ∨ (r.1 = .ret ∧ r.2 2 = .bool false ∧ rightS l = false)) ∧ Ext [] h g) ?_ l.length _ _ ⟨0, by simp, by simp, by omega, by omega, .refl⟩) ?_
  · rintro k t g ⟨i, t0, t3, hi, hok, xg⟩
    refine Tells.prot fun Q2 hQ2 => ?_
    unfold L_precentorref9_RightSubs_1
    have og := o.ext xg
    simp [t0, t3, og.len]
    refine Tells.cb (fun hc => ?_) (fun hc => ?_)
    · simp at hc
      obtain ⟨s, hs⟩ : ∃ s, l[i]? = some s := ⟨_, List.getElem?_eq_getElem hc⟩
      obtain ⟨b1, p1, B1, c1, q1, q2, fv, rfl, of_, _⟩ := og.at (n := 4) rfl (i := (i : Int)) (by omega) (by simpa using hs)
      have w : IntKind.i64.wrap ((i : Int) + 1) = i + 1 := wrap_id (by omega) (by omega)
      have q4 := q2.lda (n := 4) rfl
      have bad : okS l i = false → ∀ (t2 : T) (g2 : Heap), t2 2 = .bool false → Ext [] h g2 → Q2 (.ret, t2) g2 := fun ho t2 g2 a2 X2 => hQ2 _ _ (.inr ⟨by simp, .inr ⟨rfl, a2, rightS_false hc ho⟩, X2⟩)
      simp [J_precentorref9_RightSubs_2, t0, t3, q1, q4]
      refine Tells.newSt (ds := sxC s fv) (by rfl) (by rfl) (by rfl) (by simp [sxC, of_.one]) fun g1 bs os x1 l1 => ?_
      have X1 := xg.trans x1
      simp [os.1, sxC]
      refine Tells.bind (ref_between hX s.c 1 6 g1) ?_
      rintro _ g2 ⟨rfl, rfl⟩
      cases e1 : (decide (1 ≤ s.c) && decide (s.c ≤ 6)) with
      | false =>
        have hm : mayB s = false := by unfold mayB; rw [← Bool.and_assoc, e1]; rfl
        try simp
        exact Tells.ok (bad (okS_may hs hm) _ _ (by simp) X1)
      | true =>
        simp [os.1, sxC]
        refine Tells.bind (ref_between hX s.b 0 7 g2) ?_
        rintro _ g2 ⟨rfl, rfl⟩
        cases e2 : (decide (0 ≤ s.b) && decide (s.b ≤ 7)) with
        | false =>
          have hm : mayB s = false := by
            unfold mayB
            simp only [Bool.and_eq_true, Bool.and_eq_false_iff] at e1 e2
            rcases e2 with q | q <;> simp [q]
          try simp
          exact Tells.ok (bad (okS_may hs hm) _ _ (by simp) X1)
        | true =>
          simp [os.1, sxC]
          refine Tells.bind (ref_between hX s.n 1 4611686018427387904 g2) ?_
          rintro _ g2 ⟨rfl, rfl⟩
          cases e3 : (decide (1 ≤ s.n) && decide (s.n ≤ 4611686018427387904)) with
          | false =>
            have hm : mayB s = false := by
              unfold mayB
              simp only [Bool.and_eq_true, Bool.and_eq_false_iff] at e1 e2 e3
              rcases e3 with q | q <;> simp [q]
            try simp
            exact Tells.ok (bad (okS_may hs hm) _ _ (by simp) X1)
          | true =>
            simp [os.1, sxC]
            refine Tells.bind (ref_RightFilter hX (of_.ext x1) (sz s (List.mem_of_getElem? hs)).1 (sz s (List.mem_of_getElem? hs)).2) ?_
            rintro _ g3 ⟨rfl, x3⟩
            have X3 := X1.trans x3
            have os3 := os.e x3
            have og3 := (og.ext x1).ext x3
            simp only [Bool.and_eq_true, decide_eq_true_eq] at e1 e2 e3
            cases e4 : rightFl s.fl with
            | false =>
              have hm : mayB s = false := by simp [mayB, e4]
              try simp
              exact Tells.ok (bad (okS_may hs hm) _ _ (by simp) X3)
            | true =>
              have hm : mayB s = true := by simp [mayB, e1, e2, e3, e4]
              have go : okS l i = true → ∀ t2 : T, t2 0 = v → t2 3 = I ((i : Int) + 1) → Q2 (.normal, t2) g3 := fun ho t2 a0 a3 => hQ2 _ _ (.inl ⟨rfl, k - 1, by omega, i + 1, a0, a3, by omega, fun j hj => by
                by_cases q : j = i
                · subst q; exact ho
                · exact hok j (by omega), X3⟩)
              by_cases h0 : i = 0
              · subst h0
                simp [t3, J_precentorref9_RightSubs_4, J_precentorref9_RightSubs_5, J_precentorref9_RightSubs_3]
                exact Tells.ok (go (by rw [(okS_one hs).1, hm]) _ (by simp [t0]) (by simp; rfl))
              · have h0' : (0 : Int) < i := by omega
                have h0'' : 0 < i := by omega
                obtain ⟨p, hp⟩ : ∃ p, l[i - 1]? = some p := ⟨_, List.getElem?_eq_getElem (by omega)⟩
                have w1 : IntKind.i64.wrap ((i : Int) - 1) = ((i - 1 : Nat) : Int) := by rw [wrap_id (by omega) (by omega)]; omega
                obtain ⟨b2, p2, B2, c2, r1, r2, fw, rfl, ow, _⟩ := og3.at (n := 4) rfl (i := ((i - 1 : Nat) : Int)) (by omega) (by simpa using hp)
                have r40 := r2.cell0 (by simp [sxC])
                have r41 := r2.cell (k := 1) (by simp [sxC])
                have r42 := r2.cell (k := 2) (by simp [sxC])
                simp [sxC] at r40 r41 r42
                have n0 : ¬ i = 0 := h0
                -- the last test: three ahead
                have last : ((decide (p.c < s.c) || (p.c == s.c && decide (p.n < s.n))) && !(p.c == s.c && p.b != s.b)) = true → ∀ (t2 : T), t2 0 = v → t2 3 = I i → t2 4 = .ptr bs 0 →
                    ((¬ (p.c = s.c ∧ p.b ≠ s.b)) → Tells (fun m => J_precentorref9_RightSubs_5 Try.prog (acallX Try.prog X m) m (blkK 1 (sqK (J_precentorref9_RightSubs_3 Try.prog (acallX Try.prog X m) m okK) okK)) t2 g3) Q2) := by
                  intro hcnd t2 a0 a3 a4 hpb
                  by_cases h3 : i < 3
                  · have h3' : ¬ (3 : Int) ≤ i := by omega
                    have h3'' : ¬ 3 ≤ i := by omega
                    have ok3 : okS l i = true := by
                      simp only [okS, hs, hm, n0, if_false, hp, hcnd, Bool.true_and, h3, if_true]
                    by_cases c1 : p.c = s.c
                    · have c2 : p.b = s.b := by
                        by_cases q : p.b = s.b
                        · exact q
                        · exact absurd ⟨c1, q⟩ hpb
                      simp [J_precentorref9_RightSubs_5, a0, a3, a4, h0', h0'', w1, r1, r2.get, r40, r41, os3.1, sxC, c1, c2, h3', h3'', J_precentorref9_RightSubs_3, w]
                      exact Tells.ok (go ok3 _ (by simp [a0]) (by simp))
                    · simp [J_precentorref9_RightSubs_5, a0, a3, a4, h0', h0'', w1, r1, r2.get, r40, r41, os3.1, sxC, beq_eq_false_iff_ne.2 c1, h3', h3'', J_precentorref9_RightSubs_3, w]
                      exact Tells.ok (go ok3 _ (by simp [a0]) (by simp))
                  · have h3' : (3 : Int) ≤ i := by omega
                    have h3'' : 3 ≤ i := by omega
                    obtain ⟨q, hq⟩ : ∃ q, l[i - 3]? = some q := ⟨_, List.getElem?_eq_getElem (by omega)⟩
                    have ok3 : okS l i = (q.c != s.c) := by
                      simp only [okS, hs, hm, n0, if_false, hp, hcnd, Bool.true_and, h3, hq]
                    have w3 : IntKind.i64.wrap ((i : Int) - 3) = ((i - 3 : Nat) : Int) := by rw [wrap_id (by omega) (by omega)]; omega
                    obtain ⟨b5, p5, B5, c5, s1, s2, f5, rfl, _, _⟩ := og3.at (n := 4) rfl (i := ((i - 3 : Nat) : Int)) (by omega) (by simpa using hq)
                    have s40 := s2.cell0 (by simp [sxC])
                    simp [sxC] at s40
                    have both : ∀ z : Bool, (q.c == s.c) = z → (z = true → okS l i = false) ∧ (z = false → okS l i = true) := fun z hz => ⟨fun e => by rw [ok3]; simp [bne, hz, e], fun e => by rw [ok3]; simp [bne, hz, e]⟩
                    cases e5 : (q.c == s.c) with
                    | true =>
                      have ob := (both _ e5).1 rfl
                      by_cases c1 : p.c = s.c
                      · have c2 : p.b = s.b := by
                          by_cases q : p.b = s.b
                          · exact q
                          · exact absurd ⟨c1, q⟩ hpb
                        simp [J_precentorref9_RightSubs_5, a0, a3, a4, h0', h0'', w1, r1, r2.get, r40, r41, os3.1, sxC, c1, c2, h3', h3'', w3, s1, s2.get, s40, e5]
                        exact Tells.ok (bad ob _ _ (by simp) X3)
                      · simp [J_precentorref9_RightSubs_5, a0, a3, a4, h0', h0'', w1, r1, r2.get, r40, r41, os3.1, sxC, beq_eq_false_iff_ne.2 c1, h3', h3'', w3, s1, s2.get, s40, e5]
                        exact Tells.ok (bad ob _ _ (by simp) X3)
                    | false =>
                      have ob := (both _ e5).2 rfl
                      by_cases c1 : p.c = s.c
                      · have c2 : p.b = s.b := by
                          by_cases q : p.b = s.b
                          · exact q
                          · exact absurd ⟨c1, q⟩ hpb
                        simp [J_precentorref9_RightSubs_5, a0, a3, a4, h0', h0'', w1, r1, r2.get, r40, r41, os3.1, sxC, c1, c2, h3', h3'', w3, s1, s2.get, s40, e5, J_precentorref9_RightSubs_3, w]
                        exact Tells.ok (go ob _ (by simp [a0]) (by simp))
                      · simp [J_precentorref9_RightSubs_5, a0, a3, a4, h0', h0'', w1, r1, r2.get, r40, r41, os3.1, sxC, beq_eq_false_iff_ne.2 c1, h3', h3'', w3, s1, s2.get, s40, e5, J_precentorref9_RightSubs_3, w]
                        exact Tells.ok (go ob _ (by simp [a0]) (by simp))
                by_cases c1 : p.c < s.c
                · have nc : ¬ p.c = s.c := by omega
                  simp [t3, t0, J_precentorref9_RightSubs_4, h0', h0'', w1, r1, r2.get, r40, os3.1, sxC, c1]
                  exact last (by have : (p.c == s.c) = false := beq_eq_false_iff_ne.2 nc; simp [c1, this]) _ (by simp [t0]) (by simp [t3]) (by simp) (fun q => nc q.1)
                · by_cases c2 : p.c = s.c
                  · by_cases c3 : p.n < s.n
                    · by_cases c4 : p.b = s.b
                      · simp [t3, t0, J_precentorref9_RightSubs_4, h0', h0'', w1, r1, r2.get, r40, r42, os3.1, sxC, c2, c3]
                        exact last (by simp [c2, c3, c4]) _ (by simp [t0]) (by simp [t3]) (by simp) (fun q => q.2 c4)
                      · have ob : okS l i = false := by
                          have e3 : (p.b != s.b) = true := by simp [c4]
                          simp [okS, hs, n0, hp, c2, c3, e3]
                        have c4' : (p.b != s.b) = true := by simp [c4]
                        simp [t3, t0, J_precentorref9_RightSubs_4, h0', h0'', w1, r1, r2.get, r40, r41, r42, os3.1, sxC, c2, c3, J_precentorref9_RightSubs_5, c4']
                        exact Tells.ok (bad ob _ _ (by simp) X3)
                    · have ob : okS l i = false := by simp [okS, hs, n0, hp, c1, c3]
                      simp [t3, t0, J_precentorref9_RightSubs_4, h0', h0'', w1, r1, r2.get, r40, r42, os3.1, sxC, c2, c3]
                      exact Tells.ok (bad ob _ _ (by simp) X3)
                  · have ob : okS l i = false := by simp [okS, hs, n0, hp, c1, beq_eq_false_iff_ne.2 c2]
                    simp [t3, t0, J_precentorref9_RightSubs_4, h0', h0'', w1, r1, r2.get, r40, r42, os3.1, sxC, c1, beq_eq_false_iff_ne.2 c2]
                    exact Tells.ok (bad ob _ _ (by simp) X3)
    · simp at hc
      exact Tells.ok (hQ2 _ _ (.inr ⟨by simp, .inl ⟨rfl, rightS_true fun j hj => hok j (by omega)⟩, xg⟩))
  · rintro ⟨ex, t⟩ g ⟨⟨rfl, he⟩ | ⟨rfl, t2, he⟩, xg⟩
    · simp [J_precentorref9_RightSubs_0]
      exact Tells.ok (hQ _ _ ⟨by rw [he], xg⟩)
    · have t2 : t 2 = .bool false := t2
      simp [t2]
      exact Tells.ok (hQ _ _ ⟨by rw [he], xg⟩)
end
end Go.Proofs.Ytooeiefgnhgbeaa
