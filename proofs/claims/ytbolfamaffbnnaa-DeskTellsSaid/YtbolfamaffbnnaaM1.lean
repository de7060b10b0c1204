/-
  Texts of a claim, merged: SubD6, SamD6, WordC, RigD6.
-/
import Derived.Test.YtbolfamaffbnnaaM0
import Derived.Test.YtbolfamaffbnnaaSsubs
import Derived.Test.YtbolfamaffbnnaaSprecentorref9
import Derived.Test.YtbolfamaffbnnaaOps
import Derived.Test.YtbolfamaffbnnaaSattr
import Derived.Test.YtbolfamaffbnnaaSprecentorref1
import Derived.Test.YtbolfamaffbnnaaSfilter
import Derived.Test.YtbolfamaffbnnaaSpred
set_option linter.unusedVariables false
set_option linter.unusedSimpArgs false
/-! Subscriptions: Of, Has; Apply of the document (printed by mk22.py). -/
namespace Go.Proofs.Ytbolfamaffbnnaa
open Go.Ab

section
variable {X : XTab}

def SzF (fl : List Prd) : Prop := fl.length ≤ 1000 ∧ ∀ p, p ∈ fl → p.set.length ≤ 1000

def SzS (l : List Sx) : Prop := l.length ≤ 1000 ∧ ∀ s, s ∈ l → SzF s.fl

def sameK (c n : Int) (x : Sx) : Bool := x.c == c && x.n == n

def ltK (c n : Int) (x : Sx) : Bool := decide (x.c < c) || (x.c == c && decide (x.n < n))

def setF (s : Sx) : List Sx → List Sx
  | [] => []
  | x :: r => if sameK s.c s.n x = true then s :: r else x :: setF s r

def insB (s : Sx) : List Sx → List Sx
  | [] => [s]
  | x :: r => if ltK s.c s.n x = true then x :: insB s r else s :: x :: r

def comeL (l : List Sx) (s : Sx) : List Sx := if l.any (sameK s.c s.n) = true then setF s l else insB s l

def goneL (l : List Sx) (c n : Int) : List Sx := l.filter fun x => !sameK c n x

def appL (l : List Sx) (g : Cg) : List Sx := if g.gone = true then goneL l g.s.c g.s.n else comeL l g.s

theorem setF_at {s x : Sx} : ∀ {l : List Sx} {i : Nat}, (∀ y, y ∈ l.take i → sameK s.c s.n y = false) → l[i]? = some x → sameK s.c s.n x = true → setF s l = l.set i s
  | [], i, _, h, _ => by simp at h
  | y :: r, 0, _, h, hx => by
    simp at h
    subst h
    simp [setF, hx]
  | y :: r, i + 1, hn, h, hx => by
    have hy := hn y (by simp)
    simp [setF, hy]
    exact setF_at (fun z hz => hn z (by simp [hz])) (by simpa using h) hx

theorem insB_at {s : Sx} : ∀ {l : List Sx} {i : Nat}, i ≤ l.length → (∀ y, y ∈ l.take i → ltK s.c s.n y = true) → (∀ x, l[i]? = some x → ltK s.c s.n x = false) → insB s l = l.take i ++ s :: l.drop i
  | [], i, h, _, _ => by
    have : i = 0 := by simpa using h
    subst this
    rfl
  | y :: r, 0, _, _, h => by
    have := h y (by simp)
    simp [insB, this]
  | y :: r, i + 1, hl, hn, h => by
    have hy := hn y (by simp)
    simp [insB, hy]
    exact insB_at (by simpa using hl) (fun z hz => hn z (by simp [hz])) (fun x hx => h x (by simpa using hx))

theorem any_take {α : Type} {p : α → Bool} {l : List α} {i : Nat} (h : ∀ y, y ∈ l.take i → p y = false) (hi : l.length ≤ i) : l.any p = false := by
  rw [List.take_of_length_le hi] at h
  rw [List.any_eq_false]
  intro x hx
  simp [h x hx]

theorem subs_clone (hX : OnlyKnown X) {h : Heap} {fv : AVal} {s : Sx} {Z : Nat → Prop} (o : SlN (prZ Z) h fv s.fl) (sz : SzF s.fl) :
    Tells (fun q => acallX Try.prog X q F_subs_clone [.agg (sxC s fv)] h) fun r h' => ∃ v, r = .agg (sxC s v) ∧ RowZ prF h.next h h' v s.fl ∧ Ext [] h h' := by
  refine R_subs_clone _ (hX _ _ rfl) ?_
  refine Tells.prot fun Q' hQ => ?_
  unfold S_subs_clone
  simp [sxC]
  refine Tells.box rfl rfl fun h1 bs o1 x1 l1 => ?_
  have o1 : Ob h1 bs (sxC s fv) := o1
  try simp
  refine Tells.new fun h2 br o2 x2 l2 => ?_
  have o12 := o1.e x2
  have ne : bs ≠ br := by have := o1.lt; omega
  simp [o12.1, sxC]
  refine Tells.bind (filter_Copy hX ((o.ext x1).ext x2) sz.1 sz.2) ?_
  rintro v h3 ⟨rv, x3⟩
  have o13 := o12.e x3
  have o23 := o2.e x3
  try simp
  refine Tells.st1 o13 rv.2.1.cells rv.2.1.one (by simp [sxC]) fun h4 o14 x4 => ?_
  have o14 : Ob h4 bs (sxC s v) := by simpa [sxC] using o14
  have o24 := o23.ext x4 (by simpa using ne.symm)
  simp [o14.1, sxC]
  refine Tells.stN o24 (ds := sxC s v) (by rfl) (by rfl) (by simp [sxC, rv.2.1.one]) (by rfl) fun h5 o5 x5 => ?_
  have n1 := x1.next
  have n2 := x2.next
  have n3 := x3.next
  simp [C_subs_clone_0, o5.1, sxC]
  refine Tells.ok (hQ _ _ ⟨v, rfl, ((rv.low (by omega)).back (by omega)).extO x4 (by simpa using .inl o13.2.1) |>.extO x5 (by simpa using .inl o24.2.1), ?_⟩)
  have x14 : Ext [] h h4 := (((x1.trans x2).trans x3).then x4 fun z hz => .inr (by simp at hz; omega))
  exact x14.then x5 fun z hz => .inr (by simp at hz; omega)

theorem fresh_sx {h0 g1 g2 : Heap} {s v : AVal} {x : Sx} {l : List Sx} {K : Nat} (rz : RowZ sxF K h0 g1 s l) (rv : RowZ prF g1.next g1 g2 v x.fl) (x2 : Ext [] g1 g2) (hk : K ≤ g1.next) : (sxF.r fun q => ¬ g2.isRoot s q ∧ K ≤ q).rep g2 (sxC x v) x := by
  have key : ∀ q, g1.next ≤ q → ¬ g2.isRoot s q ∧ K ≤ q := fun q hq => ⟨by
    rintro ⟨b, hb, rfl⟩
    have := root_le g2 b
    have := (rz.1 b hb).2.2
    omega, by omega⟩
  exact ⟨v, rfl, .inl (rv.2.1.fam prF fun q _ z => key q z.2), fun c hc => key _ (rv.1 c hc).1⟩

def ofL (l : List Sx) (c : Int) : List Sx := l.filter fun x => x.c == c

theorem subs_Of (hX : OnlyKnown X) {h : Heap} {v : AVal} {l : List Sx} {Z : Nat → Prop} (o : Sl (sxZ Z) h v l) (sz : SzS l) (cl : Int) :
    Tells (fun q => acallX Try.prog X q F_subs_Of [v, I cl] h) fun r h' => RowZ sxF h.next h h' r (ofL l cl) ∧ Ext [] h h' := by
  refine R_subs_Of _ _ (hX _ _ rfl) ?_
  refine Tells.prot fun Q' hQ => ?_
  unfold S_subs_Of
  have hl := sz.1
  simp [o.len]
  refine Tells.bind (Tells.loop (fun n t g => ∃ i : Nat, t 1 = I cl ∧ t 8 = v ∧ t 9 = I l.length ∧ t 10 = I i ∧ i + n = l.length ∧ RowZ sxF h.next h g (t 5) (ofL (l.take i) cl) ∧ Ext [] h g)
    (Q := fun p g => p.1 = .exit 0 ∧ RowZ sxF h.next h g (p.2 5) (ofL l cl) ∧ Ext [] h g) ?_ l.length _ _ ⟨0, by simp, by simp, by simp, by simp, by omega, by simpa [ofL] using RowZ.nil, .refl⟩) ?_
  · rintro n t g ⟨i, t1, t8, t9, t10, hi, rz, xg⟩
    refine Tells.prot fun Q2 hQ2 => ?_
    unfold L_subs_Of_1
    have og := o.ext xg
    simp [t9, t10]
    refine Tells.cb (fun hc => ?_) (fun hc => ?_)
    · simp at hc
      obtain ⟨s, hs⟩ : ∃ s, l[i]? = some s := ⟨_, List.getElem?_eq_getElem hc⟩
      obtain ⟨b, q, B, c, q1, q2, fv, rfl, of_, _⟩ := og.at (n := 4) rfl (i := (i : Int)) (by omega) (by simpa using hs)
      have w : IntKind.i64.wrap ((i : Int) + 1) = i + 1 := wrap_id (by omega) (by omega)
      have q4 := q2.lda (n := 4) rfl
      have tk : ofL (l.take (i + 1)) cl = ofL (l.take i) cl ++ (if s.c = cl then [s] else []) := by
        rw [List.take_add_one, hs]
        unfold ofL
        rw [List.filter_append]
        congr 1
        by_cases e : s.c = cl <;> simp [e]
      have len2 : (ofL (l.take i) cl).length ≤ l.length := by
        refine Nat.le_trans (List.length_filter_le _ _) ?_
        simp; omega
      simp [J_subs_Of_2, t8, t10, q1, q4]
      refine Tells.newSt (ds := sxC s fv) (by rfl) (by rfl) (by rfl) (by simp [sxC, of_.one]) fun g1 bp op x1 l1 => ?_
      have rz1 := rz.e x1
      have ng := xg.next
      have n1 := x1.next
      by_cases e : s.c = cl
      · simp [op.1, sxC, t1, e]
        have hcl : (AVal.agg [I cl, I s.b, I s.n, fv]) = .agg (sxC s fv) := by rw [← e]; rfl
        rw [hcl]
        refine Tells.bind (subs_clone hX (s := s) (of_.ext x1) (sz.2 s (List.mem_of_getElem? hs))) ?_
        rintro _ g2 ⟨v2, rfl, rv, x2⟩
        have n2 := x2.next
        try simp [sxC]
        refine Tells.appZ (rz1.e x2) (by rfl) (by rfl) (x := s) (c := sxC s v2) (fresh_sx rz1 rv x2 (by omega)) (by rfl) (by rfl) (by omega) (by decide) (by omega) fun s4 g4 rz4 x4 y4 => ?_
        simp [J_subs_Of_3, t10, w]
        exact Tells.ok (hQ2 _ _ (.inl ⟨rfl, n - 1, by omega, i + 1, by simp [t1], by simp [t8], by simp [t9], by simp, by omega, by rw [tk, if_pos e]; simpa using rz4, y4 [] ((xg.trans x1).trans x2)⟩))
      · simp [op.1, sxC, t1, beq_eq_false_iff_ne.2 e, J_subs_Of_3, t10, w]
        exact Tells.ok (hQ2 _ _ (.inl ⟨rfl, n - 1, by omega, i + 1, by simp [t1], by simp [t8], by simp [t9], by simp, by omega, by rw [tk, if_neg e]; simpa using rz1, xg.trans x1⟩))
    · simp at hc
      have hfl : l.take i = l := List.take_of_length_le (by omega)
      rw [hfl] at rz
      exact Tells.ok (hQ2 _ _ (.inr ⟨by simp, rfl, by simpa using rz, xg⟩))
  · rintro ⟨ex, t⟩ g ⟨rfl, rz, xg⟩
    simp [J_subs_Of_0]
    exact Tells.ok (hQ _ _ ⟨by simpa using rz, xg⟩)

theorem subs_Has (hX : OnlyKnown X) {h : Heap} {v : AVal} {l : List Sx} {Z : Nat → Prop} (o : Sl (sxZ Z) h v l) (hl : l.length ≤ 1000) (cl nu : Int) :
    Tells (fun q => acallX Try.prog X q F_subs_Has [v, I cl, I nu] h) fun r h' => r = .bool (l.any (sameK cl nu)) ∧ Ext [] h h' := by
  refine R_subs_Has _ _ _ (hX _ _ rfl) ?_
  refine Tells.prot fun Q' hQ => ?_
  unfold S_subs_Has
  simp [o.len]
  refine Tells.bind (Tells.loop (fun n t g => ∃ i : Nat, t 1 = I cl ∧ t 2 = I nu ∧ t 9 = v ∧ t 10 = I l.length ∧ t 11 = I i ∧ i + n = l.length ∧ (∀ y, y ∈ l.take i → sameK cl nu y = false) ∧ Ext [] h g)
    (Q := fun p g => ((p.1 = .exit 0 ∧ l.any (sameK cl nu) = false) ∨ (p.1 = .ret ∧ p.2 6 = .bool true ∧ l.any (sameK cl nu) = true)) ∧ Ext [] h g) ?_ l.length _ _ ⟨0, by simp, by simp, by simp, by simp, by simp, by omega, by simp, .refl⟩) ?_
  · rintro n t g ⟨i, t1, t2, t9, t10, t11, hi, hno, xg⟩
    refine Tells.prot fun Q2 hQ2 => ?_
    unfold L_subs_Has_1
    have og := o.ext xg
    simp [t10, t11]
    refine Tells.cb (fun hc => ?_) (fun hc => ?_)
    · simp at hc
      obtain ⟨s, hs⟩ : ∃ s, l[i]? = some s := ⟨_, List.getElem?_eq_getElem hc⟩
      obtain ⟨b, q, B, c, q1, q2, fv, rfl, of_, _⟩ := og.at (n := 4) rfl (i := (i : Int)) (by omega) (by simpa using hs)
      have w : IntKind.i64.wrap ((i : Int) + 1) = i + 1 := wrap_id (by omega) (by omega)
      have q4 := q2.lda (n := 4) rfl
      simp [J_subs_Has_2, t9, t11, q1, q4]
      refine Tells.newSt (ds := sxC s fv) (by rfl) (by rfl) (by rfl) (by simp [sxC, of_.one]) fun g1 bp op x1 l1 => ?_
      have go : sameK cl nu s = false → ∀ t' : T, t' 1 = I cl → t' 2 = I nu → t' 9 = v → t' 10 = I l.length → t' 11 = I i → Tells (fun m => J_subs_Has_3 Try.prog (acallX Try.prog X m) m okK t' g1) Q2 := fun e t' a1 a2 a9 a10 a11 => by
        simp [J_subs_Has_3, a11, w]
        refine Tells.ok (hQ2 _ _ (.inl ⟨rfl, n - 1, by omega, i + 1, by simp [a1], by simp [a2], by simp [a9], by simp [a10], by simp, by omega, fun y hy => ?_, xg.trans x1⟩))
        rw [List.take_add_one, hs] at hy
        rcases List.mem_append.1 hy with k | k
        · exact hno y k
        · simp at k; subst k; exact e
      by_cases c1 : s.c = cl
      · by_cases c2 : s.n = nu
        · have e : sameK cl nu s = true := by simp [sameK, c1, c2]
          simp [op.1, sxC, t1, t2, c1, c2]
          exact Tells.ok (hQ2 _ _ (.inr ⟨by simp, .inr ⟨rfl, by simp, List.any_eq_true.2 ⟨s, List.mem_of_getElem? hs, e⟩⟩, xg.trans x1⟩))
        · have e : sameK cl nu s = false := by simp [sameK, c2]
          simp [op.1, sxC, t1, t2, c1, beq_eq_false_iff_ne.2 c2]
          exact go e _ (by simp [t1]) (by simp [t2]) (by simp [t9]) (by simp [t10]) (by simp [t11])
      · have e : sameK cl nu s = false := by simp [sameK, c1]
        simp [op.1, sxC, t1, t2, beq_eq_false_iff_ne.2 c1]
        exact go e _ (by simp [t1]) (by simp [t2]) (by simp [t9]) (by simp [t10]) (by simp [t11])
    · simp at hc
      exact Tells.ok (hQ2 _ _ (.inr ⟨by simp, .inl ⟨rfl, any_take hno (by omega)⟩, xg⟩))
  · rintro ⟨ex, t⟩ g ⟨⟨rfl, hno⟩ | ⟨rfl, t6, hyes⟩, xg⟩
    · simp [J_subs_Has_0]
      exact Tells.ok (hQ _ _ ⟨by rw [hno], xg⟩)
    · have t6 : t 6 = .bool true := t6
      simp [t6]
      exact Tells.ok (hQ _ _ ⟨by rw [hyes], xg⟩)

theorem setF_len (s : Sx) : ∀ l : List Sx, (setF s l).length = l.length
  | [] => rfl
  | x :: r => by
    unfold setF
    split
    · rfl
    · simp [setF_len s r]

theorem insB_len (s : Sx) : ∀ l : List Sx, (insB s l).length = l.length + 1
  | [] => rfl
  | x :: r => by
    unfold insB
    split
    · simp [insB_len s r]
    · rfl

theorem appL_len (l : List Sx) (g : Cg) : (appL l g).length ≤ l.length + 1 := by
  unfold appL comeL goneL
  split
  · have := List.length_filter_le (fun x => !sameK g.s.c g.s.n x) l
    omega
  · split
    · rw [setF_len]; omega
    · rw [insB_len]; exact Nat.le_refl _

theorem foldl_len : ∀ (ch : List Cg) (l : List Sx), (ch.foldl appL l).length ≤ l.length + ch.length
  | [], l => by simp
  | g :: ch, l => by
    have h1 := appL_len l g
    have h2 := foldl_len ch (appL l g)
    simp only [List.foldl_cons, List.length_cons]
    omega

theorem sameK_iff {c n : Int} {x : Sx} : sameK c n x = true ↔ x.c = c ∧ x.n = n := by simp [sameK]

theorem sameK_no {c n : Int} {x : Sx} : sameK c n x = false ↔ ¬ (x.c = c ∧ x.n = n) := by
  rw [← sameK_iff]; simp

theorem ref_Has (hX : OnlyKnown X) {h : Heap} {v : AVal} {l : List Sx} {Z : Nat → Prop} (o : Sl (sxZ Z) h v l) (hl : l.length ≤ 1000) (cl nu : Int) :
    Tells (fun q => acallX Try.prog X q F_precentorref9_Has [v, I cl, I nu] h) fun r h' => r = .bool (l.any (sameK cl nu)) ∧ h' = h := by
  refine R_precentorref9_Has _ _ _ (hX _ _ rfl) ?_
  refine Tells.prot fun Q' hQ => ?_
  unfold S_precentorref9_Has
  try simp
  refine Tells.bind (Tells.loop (fun n t g => g = h ∧ ∃ i : Nat, t 0 = v ∧ t 1 = I cl ∧ t 2 = I nu ∧ t 7 = I i ∧ i + n = l.length ∧ (∀ y, y ∈ l.take i → sameK cl nu y = false))
    (Q := fun p g => g = h ∧ ((p.1 = .exit 0 ∧ l.any (sameK cl nu) = false) ∨ (p.1 = .ret ∧ p.2 6 = .bool true ∧ l.any (sameK cl nu) = true))) ?_ l.length _ _ ⟨rfl, 0, by simp, by simp, by simp, by simp, by omega, by simp⟩) ?_
  · rintro n t g ⟨rfl, i, t0, t1, t2, t7, hi, hno⟩
    refine Tells.prot fun Q2 hQ2 => ?_
    unfold L_precentorref9_Has_1
    simp [t0, t7, o.len]
    refine Tells.cb (fun hc => ?_) (fun hc => ?_)
    · simp at hc
      obtain ⟨s, hs⟩ : ∃ s, l[i]? = some s := ⟨_, List.getElem?_eq_getElem hc⟩
      obtain ⟨b, q, B, c, q1, q2, fv, rfl, of_, _⟩ := o.at (n := 4) rfl (i := (i : Int)) (by omega) (by simpa using hs)
      have w : IntKind.i64.wrap ((i : Int) + 1) = i + 1 := wrap_id (by omega) (by omega)
      have q40 := q2.cell0 (by simp [sxC])
      have q42 := q2.cell (k := 2) (by simp [sxC])
      simp [sxC] at q40 q42
      have go : sameK cl nu s = false → ∀ t' : T, t' 0 = v → t' 1 = I cl → t' 2 = I nu → t' 7 = I i → Tells (fun m => J_precentorref9_Has_3 Try.prog (acallX Try.prog X m) m okK t' g) Q2 := fun e t' a0 a1 a2 a7 => by
        simp [J_precentorref9_Has_3, a7, w]
        refine Tells.ok (hQ2 _ _ (.inl ⟨rfl, n - 1, by omega, rfl, i + 1, by simp [a0], by simp [a1], by simp [a2], by simp, by omega, fun y hy => ?_⟩))
        rw [List.take_add_one, hs] at hy
        rcases List.mem_append.1 hy with k | k
        · exact hno y k
        · simp at k; subst k; exact e
      by_cases c1 : s.c = cl
      · by_cases c2 : s.n = nu
        · have e : sameK cl nu s = true := by simp [sameK, c1, c2]
          simp [J_precentorref9_Has_2, t0, t1, t2, t7, q1, q2.get, q40, q42, c1, c2]
          exact Tells.ok (hQ2 _ _ (.inr ⟨by simp, rfl, .inr ⟨rfl, by simp, List.any_eq_true.2 ⟨s, List.mem_of_getElem? hs, e⟩⟩⟩))
        · have e : sameK cl nu s = false := by simp [sameK, c2]
          simp [J_precentorref9_Has_2, t0, t1, t2, t7, q1, q2.get, q40, q42, c1, beq_eq_false_iff_ne.2 c2]
          exact go e _ (by simp [t0]) (by simp [t1]) (by simp [t2]) (by simp [t7])
      · have e : sameK cl nu s = false := by simp [sameK, c1]
        simp [J_precentorref9_Has_2, t0, t1, t2, t7, q1, q2.get, q40, q42, beq_eq_false_iff_ne.2 c1]
        exact go e _ (by simp [t0]) (by simp [t1]) (by simp [t2]) (by simp [t7])
    · simp at hc
      exact Tells.ok (hQ2 _ _ (.inr ⟨by simp, rfl, .inl ⟨rfl, any_take hno (by omega)⟩⟩))
  · rintro ⟨ex, t⟩ g ⟨rfl, ⟨rfl, hno⟩ | ⟨rfl, t6, hyes⟩⟩
    · simp [J_precentorref9_Has_0]
      exact Tells.ok (hQ _ _ ⟨by rw [hno], rfl⟩)
    · have t6 : t 6 = .bool true := t6
      simp [t6]
      exact Tells.ok (hQ _ _ ⟨by rw [hyes], rfl⟩)

theorem ref_Of (hX : OnlyKnown X) {h : Heap} {v : AVal} {l : List Sx} (o : Sl sxR h v l) (hl : l.length ≤ 1000) (cl : Int) :
    Tells (fun q => acallX Try.prog X q F_precentorref9_Of [v, I cl] h) fun r h' => Sl sxR h' r (ofL l cl) ∧ Ext [] h h' := by
  refine R_precentorref9_Of _ _ (hX _ _ rfl) ?_
  refine Tells.prot fun Q' hQ => ?_
  unfold S_precentorref9_Of
  try simp
  refine Tells.bind (Tells.loop (fun n t g => ∃ i : Nat, t 0 = v ∧ t 1 = I cl ∧ t 6 = I i ∧ i + n = l.length ∧ Gl sxR h g (t 5) (ofL (l.take i) cl) ∧ Ext [] h g)
    (Q := fun p g => p.1 = .exit 0 ∧ Sl sxR g (p.2 5) (ofL l cl) ∧ Ext [] h g) ?_ l.length _ _ ⟨0, by simp, by simp, by simp, by omega, by simpa [ofL] using Gl.nil, .refl⟩) ?_
  · rintro n t g ⟨i, t0, t1, t6, hi, gl, xg⟩
    refine Tells.prot fun Q2 hQ2 => ?_
    unfold L_precentorref9_Of_1
    have og := o.ext xg
    simp [t0, t6, og.len]
    refine Tells.cb (fun hc => ?_) (fun hc => ?_)
    · simp at hc
      obtain ⟨s, hs⟩ : ∃ s, l[i]? = some s := ⟨_, List.getElem?_eq_getElem hc⟩
      obtain ⟨b, q, B, c, q1, q2, fv, rfl, of_, _⟩ := og.at (n := 4) rfl (i := (i : Int)) (by omega) (by simpa using hs)
      have w : IntKind.i64.wrap ((i : Int) + 1) = i + 1 := wrap_id (by omega) (by omega)
      have q40 := q2.cell0 (by simp [sxC])
      simp [sxC] at q40
      have q4 := q2.lda (n := 4) rfl
      have q4b : (if q + 4 ≤ B.length then some (AVal.agg (List.take 4 (List.drop q B))) else none) = some (.agg (sxC s fv)) := by
        have := q4
        simpa [q2.get] using this
      have tk : ofL (l.take (i + 1)) cl = ofL (l.take i) cl ++ (if s.c = cl then [s] else []) := by
        rw [List.take_add_one, hs]
        unfold ofL
        rw [List.filter_append]
        congr 1
        by_cases e : s.c = cl <;> simp [e]
      have len2 : (ofL (l.take i) cl).length ≤ l.length := by
        refine Nat.le_trans (List.length_filter_le _ _) ?_
        simp; omega
      by_cases e : s.c = cl
      · simp [J_precentorref9_Of_2, t0, t1, t6, q1, q2.get, q40, e, q4b]
        refine Tells.app1 gl (by rfl) (by rfl) (show sxR.rep g (sxC s fv) s from ⟨fv, rfl, of_, fun _ _ => trivial⟩) (by rfl) (by rfl) (by omega) (by decide) xg.next fun s4 g4 gl4 x4 y4 _ => ?_
        simp [J_precentorref9_Of_3, t6, w]
        exact Tells.ok (hQ2 _ _ (.inl ⟨rfl, n - 1, by omega, i + 1, by simp [t0], by simp [t1], by simp, by omega, by rw [tk, if_pos e]; simpa using gl4, y4 [] xg⟩))
      · simp [J_precentorref9_Of_2, t0, t1, t6, q1, q2.get, q40, beq_eq_false_iff_ne.2 e, J_precentorref9_Of_3, w]
        exact Tells.ok (hQ2 _ _ (.inl ⟨rfl, n - 1, by omega, i + 1, by simp [t0], by simp [t1], by simp, by omega, by rw [tk, if_neg e]; simpa using gl, xg⟩))
    · simp at hc
      have hfl : l.take i = l := List.take_of_length_le (by omega)
      rw [hfl] at gl
      exact Tells.ok (hQ2 _ _ (.inr ⟨by simp, rfl, by simpa using gl.1, xg⟩))
  · rintro ⟨ex, t⟩ g ⟨rfl, sl, xg⟩
    simp [J_precentorref9_Of_0]
    exact Tells.ok (hQ _ _ ⟨by simpa using sl, xg⟩)

theorem setF_none {s : Sx} : ∀ {l : List Sx}, (∀ y, y ∈ l → sameK s.c s.n y = false) → setF s l = l
  | [], _ => rfl
  | x :: r, h => by
    unfold setF
    rw [if_neg (by simp [h x]), setF_none fun y hy => h y (by simp [hy])]

structure AI (t : T) (g g0 : Heap) (mv cv sv : AVal) (bs i k : Nat) (th : Bool) (s : Sx) : Prop where
  t0 : t 0 = mv
  t1 : t 1 = cv
  t5 : t 5 = I i
  t6 : t 6 = .ptr bs 0
  t9 : t 9 = .bool th
  t10 : t 10 = I k
  os : Ob g bs (sxC s sv)
  x : Ext [] g0 g

variable {g0 : Heap} {t : T} {mv cv sv : AVal} {bs i : Nat} {s : Sx} {m : List Sx} {ch : List Cg} {c : Cg}

theorem ap_gone (hX : OnlyKnown X) (om : Sl sxR g0 mv m) (hm : m.length ≤ 900) (oc : Sl cgR g0 cv ch) (hc : ch[i]? = some c) (hg : c.gone = true) (ai : AI t g0 g0 mv cv sv bs i 0 false s) (t7 : t 7 = .nils) (t8 : t 8 = .bool true) :
    Tells (fun q => loopN (L_precentorref9_Apply_6 Try.prog (acallX Try.prog X q) q) q t g0) fun p g => p.1 = .exit 2 ∧ AI p.2 g g0 mv cv sv bs i m.length false s ∧ p.2 8 = .bool true ∧ Gl sxR g0 g (p.2 7) (goneL m s.c s.n) := by
  refine Tells.loop (fun n t g => ∃ k : Nat, AI t g g0 mv cv sv bs i k false s ∧ t 8 = .bool true ∧ k + n = m.length ∧ Gl sxR g0 g (t 7) (goneL (m.take k) s.c s.n)) ?_ m.length _ _ ⟨0, ai, t8, by omega, by rw [t7]; simpa [goneL] using Gl.nil⟩
  rintro n t g ⟨k, ai, t8, hk, gl⟩
  refine Tells.prot fun Q2 hQ2 => ?_
  unfold L_precentorref9_Apply_6
  have og := om.ext ai.x
  have oc' := oc.ext ai.x
  simp [ai.t10, ai.t0, og.len]
  refine Tells.cb (fun hcc => ?_) (fun hcc => ?_)
  · simp at hcc
    obtain ⟨z, hz⟩ : ∃ z, m[k]? = some z := ⟨_, List.getElem?_eq_getElem hcc⟩
    obtain ⟨b, q, B, cc, q1, q2, fv, rfl, of_, _⟩ := og.at (n := 4) rfl (i := (k : Int)) (by omega) (by simpa using hz)
    obtain ⟨b3, q3, B3, c3, r1, r2, fv3, rfl, _, _⟩ := oc'.at (n := 5) rfl (i := (i : Int)) (by omega) (by simpa using hc)
    have w : IntKind.i64.wrap ((k : Int) + 1) = k + 1 := wrap_id (by omega) (by omega)
    have q40 := q2.cell0 (by simp [sxC])
    have q42 := q2.cell (k := 2) (by simp [sxC])
    have r40 := r2.cell0 (by simp [sxC])
    simp [sxC] at q40 q42 r40
    rw [hg] at r40
    have q4b : (if q + 4 ≤ B.length then some (AVal.agg (List.take 4 (List.drop q B))) else none) = some (.agg (sxC z fv)) := by
      have := q2.lda (n := 4) rfl
      simpa [q2.get] using this
    have tk : goneL (m.take (k + 1)) s.c s.n = goneL (m.take k) s.c s.n ++ (if sameK s.c s.n z = true then [] else [z]) := by
      rw [List.take_add_one, hz]
      unfold goneL
      rw [List.filter_append]
      congr 1
      cases hq : sameK s.c s.n z <;> simp [hq]
    have len2 : (goneL (m.take k) s.c s.n).length ≤ m.length := by
      refine Nat.le_trans (List.length_filter_le _ _) ?_
      simp; omega
    have end_ : ∀ (t2 : T) (g2 : Heap), t2 0 = t 0 → t2 1 = t 1 → t2 5 = t 5 → t2 6 = t 6 → t2 8 = .bool true → t2 9 = t 9 → t2 10 = t 10 → Ob g2 bs (sxC s sv) → Ext [] g0 g2 → Gl sxR g0 g2 (t2 7) (goneL (m.take (k + 1)) s.c s.n) →
        Tells (fun q => J_precentorref9_Apply_8 Try.prog (acallX Try.prog X q) q okK t2 g2) Q2 := fun t2 g2 a0 a1 a5 a6 a8 a9 a10 o2 x2 gl2 => by
      simp [J_precentorref9_Apply_8, a10, ai.t10, w]
      exact Tells.ok (hQ2 _ _ (.inl ⟨rfl, n - 1, by omega, k + 1, ⟨by simp [a0, ai.t0], by simp [a1, ai.t1], by simp [a5, ai.t5], by simp [a6, ai.t6], by simp [a9, ai.t9], by simp, o2, x2⟩, by simp [a8], by omega, by simpa using gl2⟩))
    have app : sameK s.c s.n z = false → ∀ t2 : T, t2 0 = t 0 → t2 1 = t 1 → t2 5 = t 5 → t2 6 = t 6 → t2 7 = t 7 → t2 8 = .bool true → t2 9 = t 9 → t2 10 = t 10 →
        Tells (fun q => J_precentorref9_Apply_11 Try.prog (acallX Try.prog X q) q (blkK 3 (sqK (J_precentorref9_Apply_8 Try.prog (acallX Try.prog X q) q okK) okK)) t2 g) Q2 := fun e t2 a0 a1 a5 a6 a7 a8 a9 a10 => by
      simp [J_precentorref9_Apply_11, a7, a0, ai.t0, a10, ai.t10, q1, q2.get, q4b]
      refine Tells.app1 gl (by rfl) (by rfl) (show sxR.rep g (sxC z fv) z from ⟨fv, rfl, of_, fun _ _ => trivial⟩) (by rfl) (by rfl) (by omega) (by decide) ai.x.next fun s4 g4 gl4 x4 y4 _ => ?_
      try simp
      exact end_ _ g4 (by simp [a0, ai.t0]) (by simp [a1]) (by simp [a5]) (by simp [a6]) (by simp [a8]) (by simp [a9]) (by simp [a10, ai.t10]) (ai.os.ext x4 (gl.1.ob ai.os)) (y4 [] ai.x) (by rw [tk, e]; simpa using gl4)
    by_cases c1 : z.c = s.c
    · by_cases c2 : z.n = s.n
      · have e : sameK s.c s.n z = true := by simp [sameK, c1, c2]
        simp [J_precentorref9_Apply_7, ai.t0, ai.t10, q1, q2.get, q40, q42, ai.t6, ai.os.1, sxC, c1, c2, ai.t1, ai.t5, r1, r2.get, r40]
        exact end_ _ g (by simp [ai.t0]) (by simp [ai.t1]) (by simp [ai.t5]) (by simp [ai.t6]) (by simp [t8]) (by simp) (by simp [ai.t10]) ai.os ai.x (by rw [tk, e]; simpa using gl)
      · have e : sameK s.c s.n z = false := by simp [sameK, c2]
        simp [J_precentorref9_Apply_7, ai.t0, ai.t10, q1, q2.get, q40, q42, ai.t6, ai.os.1, sxC, c1, beq_eq_false_iff_ne.2 c2, ai.t1, ai.t5, r1, r2.get, r40, J_precentorref9_Apply_9, ai.t9, J_precentorref9_Apply_10, t8]
        exact app e _ (by simp [ai.t0]) (by simp [ai.t1]) (by simp [ai.t5]) (by simp [ai.t6]) (by simp) (by simp [t8]) (by simp [ai.t9]) (by simp [ai.t10])
    · have e : sameK s.c s.n z = false := by simp [sameK, c1]
      simp [J_precentorref9_Apply_7, ai.t0, ai.t10, q1, q2.get, q40, q42, ai.t6, ai.os.1, sxC, beq_eq_false_iff_ne.2 c1, ai.t1, ai.t5, r1, r2.get, r40, J_precentorref9_Apply_9, ai.t9, J_precentorref9_Apply_10, t8]
      exact app e _ (by simp [ai.t0]) (by simp [ai.t1]) (by simp [ai.t5]) (by simp [ai.t6]) (by simp) (by simp [t8]) (by simp [ai.t9]) (by simp [ai.t10])
  · simp at hcc
    have hkm : k = m.length := by omega
    subst hkm
    rw [List.take_length] at gl
    exact Tells.ok (hQ2 _ _ (.inr ⟨by simp, rfl, ⟨by simp [ai.t0], by simp [ai.t1], by simp [ai.t5], by simp [ai.t6], by simp [ai.t9], by simp [ai.t10], ai.os, ai.x⟩, by simp [t8], by simpa using gl⟩))

set_option maxHeartbeats 4000000 in

theorem ap_come (hX : OnlyKnown X) (om : Sl sxR g0 mv m) (hm : m.length ≤ 900) (oc : Sl cgR g0 cv ch) (hc : ch[i]? = some c) (hg : c.gone = false) {th : Bool} (hth : th = m.any (sameK s.c s.n)) (rs : SlN prR g0 sv s.fl) (ai : AI t g0 g0 mv cv sv bs i 0 th s) (t7 : t 7 = .nils) (t8 : t 8 = .bool false) :
    Tells (fun q => loopN (L_precentorref9_Apply_6 Try.prog (acallX Try.prog X q) q) q t g0) fun p g => p.1 = .exit 2 ∧ AI p.2 g g0 mv cv sv bs i m.length th s ∧
      ((p.2 8 = .bool true ∧ Gl sxR g0 g (p.2 7) (comeL m s)) ∨ (p.2 8 = .bool false ∧ Gl sxR g0 g (p.2 7) m ∧ comeL m s = m ++ [s])) := by
  refine Tells.loop (fun n t g => ∃ k : Nat, AI t g g0 mv cv sv bs i k th s ∧ k + n = m.length ∧
      ((t 8 = .bool true ∧ ∃ nx : List Sx, nx.length ≤ k + 1 ∧ Gl sxR g0 g (t 7) nx ∧ nx ++ m.drop k = comeL m s) ∨
       (t 8 = .bool false ∧ Gl sxR g0 g (t 7) (m.take k) ∧ (∀ y, y ∈ m.take k → sameK s.c s.n y = false) ∧ (th = false → ∀ y, y ∈ m.take k → ltK s.c s.n y = true)))) ?_ m.length _ _ ⟨0, ai, by omega, .inr ⟨t8, by rw [t7]; simpa using Gl.nil, by simp, by simp⟩⟩
  rintro n t g ⟨k, ai, hk, st⟩
  refine Tells.prot fun Q2 hQ2 => ?_
  unfold L_precentorref9_Apply_6
  have og := om.ext ai.x
  have oc' := oc.ext ai.x
  simp [ai.t10, ai.t0, og.len]
  refine Tells.cb (fun hcc => ?_) (fun hcc => ?_)
  · simp at hcc
    obtain ⟨z, hz⟩ : ∃ z, m[k]? = some z := ⟨_, List.getElem?_eq_getElem hcc⟩
    obtain ⟨b, q, B, cc, q1, q2, fv, rfl, of_, _⟩ := og.at (n := 4) rfl (i := (k : Int)) (by omega) (by simpa using hz)
    obtain ⟨b3, q3, B3, c3, r1, r2, fv3, rfl, _, _⟩ := oc'.at (n := 5) rfl (i := (i : Int)) (by omega) (by simpa using hc)
    have w : IntKind.i64.wrap ((k : Int) + 1) = k + 1 := wrap_id (by omega) (by omega)
    have q40 := q2.cell0 (by simp [sxC])
    have q42 := q2.cell (k := 2) (by simp [sxC])
    have r40 := r2.cell0 (by simp [sxC])
    simp [sxC] at q40 q42 r40
    rw [hg] at r40
    have q4b : (if q + 4 ≤ B.length then some (AVal.agg (List.take 4 (List.drop q B))) else none) = some (.agg (sxC z fv)) := by
      have := q2.lda (n := 4) rfl
      simpa [q2.get] using this
    have dk : m.drop k = z :: m.drop (k + 1) := by rw [List.drop_eq_getElem_cons hcc, (List.getElem?_eq_some_iff.1 hz).2]
    have tk : m.take (k + 1) = m.take k ++ [z] := by rw [List.take_add_one, hz]; rfl
    have end_ : ∀ (t2 : T) (g2 : Heap), t2 0 = t 0 → t2 1 = t 1 → t2 5 = t 5 → t2 6 = t 6 → t2 9 = t 9 → t2 10 = t 10 → Ob g2 bs (sxC s sv) → Ext [] g0 g2 →
        ((t2 8 = .bool true ∧ ∃ nx : List Sx, nx.length ≤ k + 2 ∧ Gl sxR g0 g2 (t2 7) nx ∧ nx ++ m.drop (k + 1) = comeL m s) ∨
         (t2 8 = .bool false ∧ Gl sxR g0 g2 (t2 7) (m.take (k + 1)) ∧ (∀ y, y ∈ m.take (k + 1) → sameK s.c s.n y = false) ∧ (th = false → ∀ y, y ∈ m.take (k + 1) → ltK s.c s.n y = true))) →
        Tells (fun q => J_precentorref9_Apply_8 Try.prog (acallX Try.prog X q) q okK t2 g2) Q2 := fun t2 g2 a0 a1 a5 a6 a9 a10 o2 x2 st2 => by
      simp [J_precentorref9_Apply_8, a10, ai.t10, w]
      exact Tells.ok (hQ2 _ _ (.inl ⟨rfl, n - 1, by omega, k + 1, ⟨by simp [a0, ai.t0], by simp [a1, ai.t1], by simp [a5, ai.t5], by simp [a6, ai.t6], by simp [a9, ai.t9], by simp, o2, x2⟩, by omega, by simpa using st2⟩))
    -- the element itself is appended
    have app : ∀ (S : List Nat) (t2 : T) (g2 : Heap) (l2 : List Sx), Ext S g g2 → Ob g2 bs (sxC s sv) → Ext [] g0 g2 → Gl sxR g0 g2 (t2 7) l2 → l2.length ≤ 1000 → t2 0 = t 0 → t2 1 = t 1 → t2 5 = t 5 → t2 6 = t 6 → t2 9 = t 9 → t2 10 = t 10 →
        (∀ v4 g4, Gl sxR g0 g4 v4 (l2 ++ [z]) → ((t2 8 = .bool true ∧ ∃ nx : List Sx, nx.length ≤ k + 2 ∧ Gl sxR g0 g4 v4 nx ∧ nx ++ m.drop (k + 1) = comeL m s) ∨
         (t2 8 = .bool false ∧ Gl sxR g0 g4 v4 (m.take (k + 1)) ∧ (∀ y, y ∈ m.take (k + 1) → sameK s.c s.n y = false) ∧ (th = false → ∀ y, y ∈ m.take (k + 1) → ltK s.c s.n y = true)))) →
        Tells (fun q => J_precentorref9_Apply_11 Try.prog (acallX Try.prog X q) q (blkK 3 (sqK (J_precentorref9_Apply_8 Try.prog (acallX Try.prog X q) q okK) okK)) t2 g2) Q2 := fun S t2 g2 l2 xgg o2 x2 gl2 hl2 a0 a1 a5 a6 a9 a10 fin => by
      obtain ⟨b', q', B', cc', q1', q2', fv', rfl, of', _⟩ := (og.ext xgg).at (n := 4) rfl (i := (k : Int)) (by omega) (by simpa using hz)
      have q4b' : (if q' + 4 ≤ B'.length then some (AVal.agg (List.take 4 (List.drop q' B'))) else none) = some (.agg (sxC z fv')) := by
        have := q2'.lda (n := 4) rfl
        simpa [q2'.get] using this
      simp [J_precentorref9_Apply_11, a0, ai.t0, a10, ai.t10, q1', q2'.get, q4b']
      refine Tells.app1 gl2 (by rfl) (by rfl) (show sxR.rep g2 (sxC z fv') z from ⟨fv', rfl, of', fun _ _ => trivial⟩) (by rfl) (by rfl) (by omega) (by decide) x2.next fun s4 g4 gl4 x4 y4 _ => ?_
      try simp
      exact end_ _ g4 (by simp [a0, ai.t0]) (by simp [a1]) (by simp [a5]) (by simp [a6]) (by simp [a9]) (by simp [a10, ai.t10]) (o2.ext x4 (gl2.1.ob o2)) (y4 [] x2) (by simpa using fin s4 g4 gl4)
    rcases st with ⟨t8, nx, hnl, gl, hnx⟩ | ⟨t8, gl, hno, hlt⟩
    · -- it is in: the rest is appended
      have A : ∀ t2 : T, t2 0 = t 0 → t2 1 = t 1 → t2 5 = t 5 → t2 6 = t 6 → t2 7 = t 7 → t2 8 = .bool true → t2 9 = t 9 → t2 10 = t 10 →
          Tells (fun q => J_precentorref9_Apply_11 Try.prog (acallX Try.prog X q) q (blkK 3 (sqK (J_precentorref9_Apply_8 Try.prog (acallX Try.prog X q) q okK) okK)) t2 g) Q2 := fun t2 a0 a1 a5 a6 a7 a8 a9 a10 =>
        app [] t2 g nx .refl ai.os ai.x (by rw [a7]; exact gl) (by omega) a0 a1 a5 a6 a9 a10 fun v4 g4 gl4 => .inl ⟨a8, _, by simp; omega, gl4, by rw [← hnx, dk]; simp⟩
      by_cases c1 : z.c = s.c
      · by_cases c2 : z.n = s.n
        · cases th <;> simp [J_precentorref9_Apply_7, ai.t0, ai.t10, q1, q2.get, q40, q42, ai.t6, ai.os.1, sxC, c1, c2, ai.t1, ai.t5, r1, r2.get, r40, J_precentorref9_Apply_9, ai.t9, J_precentorref9_Apply_10, t8]
          all_goals exact A _ (by simp [ai.t0]) (by simp [ai.t1]) (by simp [ai.t5]) (by simp [ai.t6]) (by simp) (by simp [t8]) (by simp [ai.t9]) (by simp [ai.t10])
        · cases th <;> simp [J_precentorref9_Apply_7, ai.t0, ai.t10, q1, q2.get, q40, q42, ai.t6, ai.os.1, sxC, c1, beq_eq_false_iff_ne.2 c2, ai.t1, ai.t5, r1, r2.get, r40, J_precentorref9_Apply_9, ai.t9, J_precentorref9_Apply_10, t8]
          all_goals exact A _ (by simp [ai.t0]) (by simp [ai.t1]) (by simp [ai.t5]) (by simp [ai.t6]) (by simp) (by simp [t8]) (by simp [ai.t9]) (by simp [ai.t10])
      · cases th <;> simp [J_precentorref9_Apply_7, ai.t0, ai.t10, q1, q2.get, q40, q42, ai.t6, ai.os.1, sxC, beq_eq_false_iff_ne.2 c1, ai.t1, ai.t5, r1, r2.get, r40, J_precentorref9_Apply_9, ai.t9, J_precentorref9_Apply_10, t8]
        all_goals exact A _ (by simp [ai.t0]) (by simp [ai.t1]) (by simp [ai.t5]) (by simp [ai.t6]) (by simp) (by simp [t8]) (by simp [ai.t9]) (by simp [ai.t10])
    · have srep : ∀ g', Ext [] g0 g' → sxR.rep g' (sxC s sv) s := fun g' x' => ⟨sv, rfl, rs.ext x', fun _ _ => trivial⟩
      have l2 : (m.take k).length ≤ 900 := by simp; omega
      cases hs : sameK s.c s.n z with
      | true =>
        have kk := sameK_iff.1 hs
        have thT : th = true := by rw [hth]; exact List.any_eq_true.2 ⟨z, List.mem_of_getElem? hz, hs⟩
        subst thT
        have ecome : comeL m s = m.take k ++ s :: m.drop (k + 1) := by
          unfold comeL
          rw [if_pos hth.symm, setF_at hno hz hs, List.set_eq_take_append_cons_drop, if_pos hcc]
        simp [J_precentorref9_Apply_7, ai.t0, ai.t10, q1, q2.get, q40, q42, ai.t6, ai.os.1, sxC, kk.1, kk.2, ai.t1, ai.t5, r1, r2.get, r40, J_precentorref9_Apply_9, ai.t9, t8]
        refine Tells.app1 gl (by rfl) (by rfl) (srep g ai.x) (by rfl) (by rfl) (by omega) (by decide) ai.x.next fun s4 g4 gl4 x4 y4 _ => ?_
        try simp
        exact end_ _ g4 (by simp [ai.t0]) (by simp [ai.t1]) (by simp [ai.t5]) (by simp [ai.t6]) (by simp) (by simp [ai.t10]) (ai.os.ext x4 (gl.1.ob ai.os)) (y4 [] ai.x) (.inl ⟨by simp, m.take k ++ [s], by simp; omega, by simpa using gl4, by rw [ecome]; simp⟩)
      | false =>
        have nk := sameK_no.1 hs
        have hno2 : ∀ y, y ∈ m.take (k + 1) → sameK s.c s.n y = false := fun y hy => by
          rw [tk] at hy
          rcases List.mem_append.1 hy with u | u
          · exact hno y u
          · simp at u; subst u; exact hs
        -- no: the element is appended, s is not in yet
        have B0 : (th = false → ltK s.c s.n z = true) → ∀ t2 : T, t2 0 = t 0 → t2 1 = t 1 → t2 5 = t 5 → t2 6 = t 6 → t2 7 = t 7 → t2 8 = .bool false → t2 9 = t 9 → t2 10 = t 10 →
            Tells (fun q => J_precentorref9_Apply_11 Try.prog (acallX Try.prog X q) q (blkK 3 (sqK (J_precentorref9_Apply_8 Try.prog (acallX Try.prog X q) q okK) okK)) t2 g) Q2 := fun hz2 t2 a0 a1 a5 a6 a7 a8 a9 a10 =>
          app [] t2 g (m.take k) .refl ai.os ai.x (by rw [a7]; exact gl) (by omega) a0 a1 a5 a6 a9 a10 fun v4 g4 gl4 => .inr ⟨a8, by rw [tk]; exact gl4, hno2, fun e y hy => by
            rw [tk] at hy
            rcases List.mem_append.1 hy with u | u
            · exact hlt e y u
            · simp at u; subst u; exact hz2 e⟩
        cases th with
        | true =>
          by_cases c1 : z.c = s.c
          · have c2 : ¬ z.n = s.n := fun e => nk ⟨c1, e⟩
            simp [J_precentorref9_Apply_7, ai.t0, ai.t10, q1, q2.get, q40, q42, ai.t6, ai.os.1, sxC, c1, beq_eq_false_iff_ne.2 c2, ai.t1, ai.t5, r1, r2.get, r40, J_precentorref9_Apply_9, ai.t9, J_precentorref9_Apply_10, t8]
            exact B0 (fun e => by cases e) _ (by simp [ai.t0]) (by simp [ai.t1]) (by simp [ai.t5]) (by simp [ai.t6]) (by simp) (by simp [t8]) (by simp [ai.t9]) (by simp [ai.t10])
          · simp [J_precentorref9_Apply_7, ai.t0, ai.t10, q1, q2.get, q40, q42, ai.t6, ai.os.1, sxC, beq_eq_false_iff_ne.2 c1, ai.t1, ai.t5, r1, r2.get, r40, J_precentorref9_Apply_9, ai.t9, J_precentorref9_Apply_10, t8]
            exact B0 (fun e => by cases e) _ (by simp [ai.t0]) (by simp [ai.t1]) (by simp [ai.t5]) (by simp [ai.t6]) (by simp) (by simp [t8]) (by simp [ai.t9]) (by simp [ai.t10])
        | false =>
          have hlt := hlt rfl
          -- s comes in here
          have P0 : ltK s.c s.n z = false → ∀ (S : List Nat) (v4 : AVal) (g4 : Heap), Gl sxR g0 g4 v4 (m.take k ++ [s]) → Ext S g g4 → Ob g4 bs (sxC s sv) → Ext [] g0 g4 → ∀ t2 : T, t2 0 = t 0 → t2 1 = t 1 → t2 5 = t 5 → t2 6 = t 6 → t2 7 = v4 → t2 8 = .bool true → t2 9 = t 9 → t2 10 = t 10 →
              Tells (fun q => J_precentorref9_Apply_11 Try.prog (acallX Try.prog X q) q (blkK 3 (sqK (J_precentorref9_Apply_8 Try.prog (acallX Try.prog X q) q okK) okK)) t2 g4) Q2 := fun hz2 S v4 g4 gl4 xg4 o4 x4 t2 a0 a1 a5 a6 a7 a8 a9 a10 => by
            have ecome : comeL m s = m.take k ++ s :: m.drop k := by
              unfold comeL
              rw [if_neg (by rw [← hth]; simp)]
              exact insB_at (by omega) hlt fun x hx => by rw [hz] at hx; cases hx; exact hz2
            exact app S t2 g4 (m.take k ++ [s]) xg4 o4 x4 (by rw [a7]; exact gl4) (by simp; omega) a0 a1 a5 a6 a9 a10 fun v5 g5 gl5 => .inl ⟨a8, _, by simp; omega, gl5, by rw [ecome, dk]; simp⟩
          by_cases c1 : s.c < z.c
          · have e : ltK s.c s.n z = false := by simp [ltK]; omega
            have c1' : ¬ z.c = s.c := by omega
            simp [J_precentorref9_Apply_7, ai.t0, ai.t10, q1, q2.get, q40, q42, ai.t6, ai.os.1, sxC, beq_eq_false_iff_ne.2 c1', c1, ai.t1, ai.t5, r1, r2.get, r40, J_precentorref9_Apply_9, ai.t9, J_precentorref9_Apply_10, t8]
            refine Tells.app1 gl (by rfl) (by rfl) (srep g ai.x) (by rfl) (by rfl) (by omega) (by decide) ai.x.next fun s4 g4 gl4 x4 y4 _ => ?_
            try simp
            exact P0 e _ s4 g4 gl4 x4 (ai.os.ext x4 (gl.1.ob ai.os)) (y4 [] ai.x) _ (by simp [ai.t0]) (by simp [ai.t1]) (by simp [ai.t5]) (by simp [ai.t6]) (by simp) (by simp) (by simp [ai.t9]) (by simp [ai.t10])
          · by_cases c2 : z.c = s.c
            · by_cases c3 : s.n < z.n
              · have e : ltK s.c s.n z = false := by simp [ltK]; omega
                have c3' : ¬ z.n = s.n := by omega
                simp [J_precentorref9_Apply_7, ai.t0, ai.t10, q1, q2.get, q40, q42, ai.t6, ai.os.1, sxC, c2, beq_eq_false_iff_ne.2 c3', c3, ai.t1, ai.t5, r1, r2.get, r40, J_precentorref9_Apply_9, ai.t9, J_precentorref9_Apply_10, t8]
                refine Tells.app1 gl (by rfl) (by rfl) (srep g ai.x) (by rfl) (by rfl) (by omega) (by decide) ai.x.next fun s4 g4 gl4 x4 y4 _ => ?_
                try simp
                exact P0 e _ s4 g4 gl4 x4 (ai.os.ext x4 (gl.1.ob ai.os)) (y4 [] ai.x) _ (by simp [ai.t0]) (by simp [ai.t1]) (by simp [ai.t5]) (by simp [ai.t6]) (by simp) (by simp) (by simp [ai.t9]) (by simp [ai.t10])
              · have c3' : ¬ z.n = s.n := fun q => nk ⟨c2, q⟩
                have e : ltK s.c s.n z = true := by simp [ltK, c2]; omega
                simp [J_precentorref9_Apply_7, ai.t0, ai.t10, q1, q2.get, q40, q42, ai.t6, ai.os.1, sxC, c2, beq_eq_false_iff_ne.2 c3', c3, ai.t1, ai.t5, r1, r2.get, r40, J_precentorref9_Apply_9, ai.t9, J_precentorref9_Apply_10, t8]
                exact B0 (fun _ => e) _ (by simp [ai.t0]) (by simp [ai.t1]) (by simp [ai.t5]) (by simp [ai.t6]) (by simp) (by simp [t8]) (by simp [ai.t9]) (by simp [ai.t10])
            · have e : ltK s.c s.n z = true := by simp [ltK]; omega
              simp [J_precentorref9_Apply_7, ai.t0, ai.t10, q1, q2.get, q40, q42, ai.t6, ai.os.1, sxC, beq_eq_false_iff_ne.2 c2, c1, ai.t1, ai.t5, r1, r2.get, r40, J_precentorref9_Apply_9, ai.t9, J_precentorref9_Apply_10, t8]
              exact B0 (fun _ => e) _ (by simp [ai.t0]) (by simp [ai.t1]) (by simp [ai.t5]) (by simp [ai.t6]) (by simp) (by simp [t8]) (by simp [ai.t9]) (by simp [ai.t10])
  · simp at hcc
    have hkm : k = m.length := by omega
    subst hkm
    refine Tells.ok (hQ2 _ _ (.inr ⟨by simp, rfl, ⟨by simp [ai.t0], by simp [ai.t1], by simp [ai.t5], by simp [ai.t6], by simp [ai.t9], by simp [ai.t10], ai.os, ai.x⟩, ?_⟩))
    rcases st with ⟨t8, nx, _, gl, hnx⟩ | ⟨t8, gl, hno, hlt⟩
    · rw [List.drop_length, List.append_nil] at hnx
      subst hnx
      exact .inl ⟨by simp [t8], by simpa using gl⟩
    · rw [List.take_length] at gl hno hlt
      refine .inr ⟨by simp [t8], by simpa using gl, ?_⟩
      have hany : m.any (sameK s.c s.n) = false := by
        rw [List.any_eq_false]
        intro y hy
        simp [hno y hy]
      unfold comeL
      rw [if_neg (by simp [hany]), insB_at (i := m.length) (Nat.le_refl _) (by rw [List.take_length]; exact hlt (by rw [hth, hany])) (fun x hx => by rw [List.getElem?_eq_none (Nat.le_refl _)] at hx; cases hx)]
      simp

theorem ref_Apply (hX : OnlyKnown X) {h : Heap} {v cv : AVal} {l : List Sx} {ch : List Cg} (o : Sl sxR h v l) (hl : l.length ≤ 400) (oc : Sl cgR h cv ch) (hc : ch.length ≤ 400) :
    Tells (fun q => acallX Try.prog X q F_precentorref9_Apply [v, cv] h) fun r h' => Sl sxR h' r (ch.foldl appL l) ∧ Ext [] h h' := by
  refine R_precentorref9_Apply _ _ (hX _ _ rfl) ?_
  refine Tells.prot fun Q' hQ => ?_
  unfold S_precentorref9_Apply
  try simp
  refine Tells.lit (r := sxR) (xs := []) (css := []) (by rfl) trivial (by rfl) (by rfl) (by rfl) fun v2 h1 g1 x1 _ => ?_
  try simp
  refine Tells.appN g1 (o.ext x1) (by rfl) (by simp; omega) (by decide) x1.next fun v6 h2 g2 x2 y2 _ => ?_
  have X2 := y2 [] x1
  have o2 : Sl sxR h2 v6 l := by simpa using g2.1
  try simp
  refine Tells.bind (Tells.loop (fun n t g => ∃ i : Nat, t 1 = cv ∧ t 5 = I i ∧ i + n = ch.length ∧ Sl sxR g (t 0) ((ch.take i).foldl appL l) ∧ Ext [] h g)
    (Q := fun p g => p.1 = .exit 0 ∧ Sl sxR g (p.2 0) (ch.foldl appL l) ∧ Ext [] h g) ?_ ch.length _ _ ⟨0, by simp, by simp, by omega, by simpa using o2, X2⟩) ?_
  · rintro n t g ⟨i, t1, t5, hi, so, xg⟩
    refine Tells.prot fun Q2 hQ2 => ?_
    unfold L_precentorref9_Apply_1
    have og := oc.ext xg
    simp [t1, t5, og.len]
    refine Tells.cb (fun hcc => ?_) (fun hcc => ?_)
    · simp at hcc
      obtain ⟨c, hcx⟩ : ∃ s, ch[i]? = some s := ⟨_, List.getElem?_eq_getElem hcc⟩
      obtain ⟨b, q, B, cs, q1, q2, fv, rfl, of_, _⟩ := og.at (n := 5) rfl (i := (i : Int)) (by omega) (by simpa using hcx)
      have w : IntKind.i64.wrap ((i : Int) + 1) = i + 1 := wrap_id (by omega) (by omega)
      have q40 := q2.cell0 (by simp [sxC])
      simp [sxC] at q40
      have sub := q2.sub 1 4 (by simp [sxC])
      have q4b : (if q + 1 + 4 ≤ B.length then some (AVal.agg (List.take 4 (List.drop (q + 1) B))) else none) = some (.agg (sxC c.s fv)) := by
        have := sub.lda (n := 4) (by simp [sxC])
        simpa [q2.get, sxC] using this
      have tk : (ch.take (i + 1)).foldl appL l = appL ((ch.take i).foldl appL l) c := by rw [List.take_add_one, hcx, List.foldl_append]; rfl
      have len := foldl_len (ch.take i) l
      have len2 : (ch.take i).length ≤ ch.length := by simp; omega
      simp [J_precentorref9_Apply_2, t1, t5, q1, q2.get, q4b]
      refine Tells.newSt (ds := sxC c.s fv) (by rfl) (by rfl) (by rfl) (by simp [sxC, of_.one]) fun g3 bs os x3 l3 => ?_
      obtain ⟨b', q', B', cs', q1', q2', fv', rfl, of', _⟩ := (og.ext x3).at (n := 5) rfl (i := (i : Int)) (by omega) (by simpa using hcx)
      cases q1.symm.trans q1'
      have q40' := q2'.cell0 (by simp [sxC])
      simp [sxC] at q40'
      have X3 := xg.trans x3
      have so3 := so.ext x3
      have oc3 := og.ext x3
      have fin : ∀ (t2 : T) (g4 : Heap), t2 1 = cv → t2 5 = I i → Ext [] h g4 → Sl sxR g4 (t2 0) (appL ((ch.take i).foldl appL l) c) → Tells (fun m => J_precentorref9_Apply_3 Try.prog (acallX Try.prog X m) m okK t2 g4) Q2 := fun t2 g4 a1 a5 x4 s4 => by
        simp [J_precentorref9_Apply_3, a5, w]
        exact Tells.ok (hQ2 _ _ (.inl ⟨rfl, n - 1, by omega, i + 1, by simp [a1], by simp, by omega, by rw [tk]; simpa using s4, x4⟩))
      cases hg : c.gone with
      | true =>
        rw [hg] at q40'
        have eapp : appL ((ch.take i).foldl appL l) c = goneL ((ch.take i).foldl appL l) c.s.c c.s.n := by unfold appL; rw [if_pos hg]
        simp [q1, q2'.get, q40', os.1, sxC]
        refine Tells.bind (ap_gone hX (g0 := g3) (mv := t 0) (cv := cv) (sv := fv) (bs := bs) (i := i) (s := c.s) (m := (ch.take i).foldl appL l) so3 (by omega) oc3 hcx hg ⟨by simp, by simp [t1], by simp [t5], by simp, by simp, by simp, os, .refl⟩ (by simp) (by simp)) ?_
        rintro ⟨ex, t4⟩ g4 ⟨rfl, ai, t8, gl⟩
        have ai : AI t4 g4 g3 (t 0) cv fv bs i ((ch.take i).foldl appL l).length false c.s := ai
        have t8 : t4 8 = .bool true := t8
        simp [J_precentorref9_Apply_4, t8, J_precentorref9_Apply_5]
        exact fin _ g4 (by simp [ai.t1]) (by simp [ai.t5]) (X3.trans ai.x) (by rw [eapp]; simpa using gl.1)
      | false =>
        rw [hg] at q40'
        have eapp : appL ((ch.take i).foldl appL l) c = comeL ((ch.take i).foldl appL l) c.s := by unfold appL; rw [if_neg (by simp [hg])]
        simp [q1, q2'.get, q40', os.1, sxC]
        refine Tells.bind (ref_Has hX so3 (by omega) c.s.c c.s.n) ?_
        rintro _ g4 ⟨rfl, rfl⟩
        try simp
        refine Tells.bind (ap_come hX (g0 := g4) (mv := t 0) (cv := cv) (sv := fv) (bs := bs) (i := i) (s := c.s) (m := (ch.take i).foldl appL l) (th := ((ch.take i).foldl appL l).any (sameK c.s.c c.s.n)) so3 (by omega) oc3 hcx hg rfl (of_.ext x3) ⟨by simp, by simp [t1], by simp [t5], by simp, by simp, by simp, os, .refl⟩ (by simp) (by simp)) ?_
        rintro ⟨ex, t4⟩ g5 ⟨rfl, ai, st⟩
        have ai : AI t4 g5 g4 (t 0) cv fv bs i ((ch.take i).foldl appL l).length (((ch.take i).foldl appL l).any (sameK c.s.c c.s.n)) c.s := ai
        rcases st with ⟨t8, gl⟩ | ⟨t8, gl, ecome⟩
        · have t8 : t4 8 = .bool true := t8
          simp [J_precentorref9_Apply_4, t8, J_precentorref9_Apply_5]
          exact fin _ g5 (by simp [ai.t1]) (by simp [ai.t5]) (X3.trans ai.x) (by rw [eapp]; simpa using gl.1)
        · have t8 : t4 8 = .bool false := t8
          simp [J_precentorref9_Apply_4, t8, ai.t6, ai.os.1, sxC]
          refine Tells.app1 gl (by rfl) (by rfl) (show sxR.rep g5 (sxC c.s fv) c.s from ⟨fv, rfl, (of_.ext x3).ext ai.x, fun _ _ => trivial⟩) (by rfl) (by rfl) (by omega) (by decide) ai.x.next fun s6 g6 gl6 x6 y6 _ => ?_
          simp [J_precentorref9_Apply_5]
          exact fin _ g6 (by simp [ai.t1]) (by simp [ai.t5]) (X3.trans (y6 [] ai.x)) (by rw [eapp, ecome]; simpa using gl6.1)
    · simp at hcc
      have hfl : ch.take i = ch := List.take_of_length_le (by omega)
      rw [hfl] at so
      exact Tells.ok (hQ2 _ _ (.inr ⟨by simp, rfl, by simpa using so, xg⟩))
  · rintro ⟨ex, t⟩ g ⟨rfl, so, xg⟩
    simp [J_precentorref9_Apply_0]
    exact Tells.ok (hQ _ _ ⟨by simpa using so, xg⟩)

end
end Go.Proofs.Ytbolfamaffbnnaa

/-! Filters and subscriptions compared (printed by mk22.py). -/
namespace Go.Proofs.Ytbolfamaffbnnaa
open Go.Ab

section
variable {X : XTab}

def sameL {α : Type} (f : α → α → Bool) : List α → List α → Bool
  | [], [] => true
  | x :: l, y :: m => f x y && sameL f l m
  | [], _ :: _ => false
  | _ :: _, [] => false

theorem sameL_len {α : Type} {f : α → α → Bool} : ∀ {l m : List α}, l.length ≠ m.length → sameL f l m = false
  | [], [], h => absurd rfl h
  | x :: l, y :: m, h => by simp [sameL, sameL_len (f := f) (l := l) (m := m) (by simpa using h)]
  | [], _ :: _, _ => rfl
  | _ :: _, [], _ => rfl

theorem sameL_self {α : Type} {f : α → α → Bool} (h : ∀ x, f x x = true) : ∀ l : List α, sameL f l l = true
  | [] => rfl
  | x :: l => by simp [sameL, h x, sameL_self h l]

theorem sameL_drop {α : Type} {f : α → α → Bool} {l m : List α} {i : Nat} {x y : α} (h1 : l[i]? = some x) (h2 : m[i]? = some y) : sameL f (l.drop i) (m.drop i) = (f x y && sameL f (l.drop (i + 1)) (m.drop (i + 1))) := by
  have e1 : l.drop i = x :: l.drop (i + 1) := by rw [List.drop_eq_getElem_cons (List.getElem?_eq_some_iff.1 h1).1, (List.getElem?_eq_some_iff.1 h1).2]
  have e2 : m.drop i = y :: m.drop (i + 1) := by rw [List.drop_eq_getElem_cons (List.getElem?_eq_some_iff.1 h2).1, (List.getElem?_eq_some_iff.1 h2).2]
  rw [e1, e2]
  rfl

def samePr (p q : Prd) : Bool := p.name.toList == q.name.toList && (p.test == q.test && (sameV p.v q.v && (sameV p.w q.w && sameL sameV p.set q.set)))

theorem samePr_self (p : Prd) : samePr p p = true := by simp [samePr, sameV_self, sameL_self sameV_self]

def sameSx (s t : Sx) : Bool := s.c == t.c && (s.b == t.b && (s.n == t.n && sameL samePr s.fl t.fl))

theorem sameSx_self (s : Sx) : sameSx s s = true := by simp [sameSx, sameL_self samePr_self]

theorem ref_SameV (hX : OnlyKnown X) {h : Heap} {c d : List AVal} {x y : Vl} (r : vlR.rep h c x) (s : vlR.rep h d y) (_ : True) (_ : True) : Tells (fun q => acallX Try.prog X q F_precentorref1_SameValue [.agg c, .agg d] h) fun r h' => r = .bool (sameV x y) ∧ Ext [] h h' := by
  rw [show c = vlC x from r, show d = vlC y from s]
  exact ref_SameValue hX x y h

theorem ref_sameValues (hX : OnlyKnown X) {h : Heap} {a b : AVal} {l m : List Vl} (o : SlN vlR h a l) (p : SlN vlR h b m) (hl : l.length ≤ 1000) (sz : ∀ x, x ∈ l → True) (sz2 : ∀ x, x ∈ m → True) :
    Tells (fun q => acallX Try.prog X q F_precentorref1_sameValues [a, b] h) fun r h' => r = .bool (sameL sameV l m) ∧ Ext [] h h' := by
  refine R_precentorref1_sameValues _ _ (hX _ _ rfl) ?_
  refine Tells.prot fun Q' hQ => ?_
  unfold S_precentorref1_sameValues
  by_cases hlm : l.length = m.length
  · simp [o.len, p.len, hlm, J_precentorref1_sameValues_0]
    refine Tells.bind (Tells.loop (fun k t g => ∃ i : Nat, t 0 = a ∧ t 1 = b ∧ t 5 = I i ∧ i + k = l.length ∧ sameL sameV l m = sameL sameV (l.drop i) (m.drop i) ∧ Ext [] h g)
      (Q := fun r g => ((r.1 = .exit 0 ∧ sameL sameV l m = true) ∨ (r.1 = .ret ∧ r.2 4 = .bool false ∧ sameL sameV l m = false)) ∧ Ext [] h g) ?_ l.length _ _ ⟨0, by simp, by simp, by simp, by omega, by simp, .refl⟩) ?_
    · rintro k t g ⟨i, t0, t1, ti, hi, hs, xg⟩
      refine Tells.prot fun Q2 hQ2 => ?_
      unfold L_precentorref1_sameValues_2
      have og := o.ext xg
      have pg := p.ext xg
      simp [t0, ti, og.len]
      refine Tells.cb (fun hc => ?_) (fun hc => ?_)
      · simp at hc
        have hc1 : i < l.length := by omega
        obtain ⟨x, hx⟩ : ∃ x, l[i]? = some x := ⟨_, List.getElem?_eq_getElem hc1⟩
        obtain ⟨y, hy⟩ : ∃ y, m[i]? = some y := ⟨_, List.getElem?_eq_getElem (by omega)⟩
        obtain ⟨b1, p1, B1, c1, q1, q2, q3⟩ := og.at (n := 5) rfl (i := (i : Int)) (by omega) (by simpa using hx)
        obtain ⟨b2, p2, B2, c2, r1, r2, r3⟩ := pg.at (n := 5) rfl (i := (i : Int)) (by omega) (by simpa using hy)
        have w : IntKind.i64.wrap ((i : Int) + 1) = i + 1 := wrap_id (by omega) (by omega)
        have q4 := q2.lda (n := 5) ((vlR).len q3)
        have r4 := r2.lda (n := 5) ((vlR).len r3)
        have e := sameL_drop (f := sameV) hx hy
        simp [J_precentorref1_sameValues_3, t0, t1, ti, q1, q4, r1, r4]
        refine Tells.cbE (ref_SameV hX q3 r3 (sz x (List.mem_of_getElem? hx)) (sz2 y (List.mem_of_getElem? hy))) ?_
        rintro _ g1 ⟨rfl, x1⟩
        cases hf : sameV x y with
        | false =>
          try simp
          exact Tells.ok (hQ2 _ _ (.inr ⟨by simp, .inr ⟨rfl, by simp, by rw [hs, e, hf]; rfl⟩, xg.trans x1⟩))
        | true =>
          simp [J_precentorref1_sameValues_4, ti, w]
          exact Tells.ok (hQ2 _ _ (.inl ⟨rfl, k - 1, by omega, i + 1, by simp [t0], by simp [t1], by simp, by omega, by rw [hs, e, hf]; rfl, xg.trans x1⟩))
      · simp at hc
        refine Tells.ok (hQ2 _ _ (.inr ⟨by simp, .inl ⟨rfl, ?_⟩, xg⟩))
        rw [hs, List.drop_eq_nil_of_le (by omega), List.drop_eq_nil_of_le (by omega)]
        rfl
    · rintro ⟨ex, t⟩ g ⟨⟨rfl, he⟩ | ⟨rfl, t4, he⟩, xg⟩
      · simp [J_precentorref1_sameValues_1]
        exact Tells.ok (hQ _ _ ⟨by rw [he], xg⟩)
      · have t4 : t 4 = .bool false := t4
        simp [t4]
        exact Tells.ok (hQ _ _ ⟨by rw [he], xg⟩)
  · have hn : ((l.length : Int) != (m.length : Int)) = true := by simp; omega
    simp [o.len, p.len, hn]
    exact Tells.ok (hQ _ _ ⟨by rw [sameL_len hlm], .refl⟩)

def SzP (p : Prd) : Prop := p.set.length ≤ 1000

def SzX (s : Sx) : Prop := s.fl.length ≤ 1000 ∧ ∀ p, p ∈ s.fl → SzP p

theorem ref_SamePred (hX : OnlyKnown X) {h : Heap} {c d : List AVal} {x y : Prd} (r : prR.rep h c x) (s : prR.rep h d y) (z1 : SzP x) (z2 : SzP y) : Tells (fun q => acallX Try.prog X q F_precentorref1_SamePred [.agg c, .agg d] h) fun r h' => r = .bool (samePr x y) ∧ Ext [] h h' := by
  obtain ⟨sv, rfl, os, _⟩ := r
  obtain ⟨sw, rfl, ow, _⟩ := s
  refine R_precentorref1_SamePred _ _ (hX _ _ rfl) ?_
  refine Tells.prot fun Q' hQ => ?_
  unfold S_precentorref1_SamePred
  simp [prC, vlC]
  refine Tells.box rfl rfl fun h1 ba o1 x1 l1 => ?_
  have o1 : Ob h1 ba (prC x sv) := o1
  try simp
  refine Tells.box rfl rfl fun h2 bb o2 x2 l2 => ?_
  have o2 : Ob h2 bb (prC y sw) := o2
  have o12 := o1.e x2
  have X2 := x1.trans x2
  cases e1 : (x.name.toList == y.name.toList) with
  | false =>
    simp [o12.1, o2.1, prC, vlC, e1]
    exact Tells.ok (hQ _ _ ⟨by simp [samePr, e1], X2⟩)
  | true =>
    cases e2 : (x.test == y.test) with
    | false =>
      simp [o12.1, o2.1, prC, vlC, e1, e2]
      exact Tells.ok (hQ _ _ ⟨by simp [samePr, e1, e2], X2⟩)
    | true =>
      simp [o12.1, o2.1, prC, vlC, e1, e2]
      refine Tells.bind (ref_SameValue hX x.v y.v h2) ?_
      rintro _ h3 ⟨rfl, x3⟩
      have o13 := o12.e x3
      have o23 := o2.e x3
      have X3 := X2.trans x3
      cases e3 : sameV x.v y.v with
      | false =>
        try simp
        exact Tells.ok (hQ _ _ ⟨by simp [samePr, e1, e2, e3], X3⟩)
      | true =>
        simp [o13.1, o23.1, prC, vlC]
        refine Tells.bind (ref_SameValue hX x.w y.w h3) ?_
        rintro _ h4 ⟨rfl, x4⟩
        have o14 := o13.e x4
        have o24 := o23.e x4
        have X4 := X3.trans x4
        cases e4 : sameV x.w y.w with
        | false =>
          try simp
          exact Tells.ok (hQ _ _ ⟨by simp [samePr, e1, e2, e3, e4], X4⟩)
        | true =>
          simp [o14.1, o24.1, prC, vlC]
          refine Tells.bind (ref_sameValues hX (os.ext X4) (ow.ext X4) z1 (fun _ _ => trivial) (fun _ _ => trivial)) ?_
          rintro _ h5 ⟨rfl, x5⟩
          try simp
          exact Tells.ok (hQ _ _ ⟨by simp [samePr, e1, e2, e3, e4], X4.trans x5⟩)

theorem ref_SameFilter (hX : OnlyKnown X) {h : Heap} {a b : AVal} {l m : List Prd} (o : SlN prR h a l) (p : SlN prR h b m) (hl : l.length ≤ 1000) (sz : ∀ x, x ∈ l → SzP x) (sz2 : ∀ x, x ∈ m → SzP x) :
    Tells (fun q => acallX Try.prog X q F_precentorref1_SameFilter [a, b] h) fun r h' => r = .bool (sameL samePr l m) ∧ Ext [] h h' := by
  refine R_precentorref1_SameFilter _ _ (hX _ _ rfl) ?_
  refine Tells.prot fun Q' hQ => ?_
  unfold S_precentorref1_SameFilter
  by_cases hlm : l.length = m.length
  · simp [o.len, p.len, hlm, J_precentorref1_SameFilter_0]
    refine Tells.bind (Tells.loop (fun k t g => ∃ i : Nat, t 0 = a ∧ t 1 = b ∧ t 5 = I i ∧ i + k = l.length ∧ sameL samePr l m = sameL samePr (l.drop i) (m.drop i) ∧ Ext [] h g)
      (Q := fun r g => ((r.1 = .exit 0 ∧ sameL samePr l m = true) ∨ (r.1 = .ret ∧ r.2 4 = .bool false ∧ sameL samePr l m = false)) ∧ Ext [] h g) ?_ l.length _ _ ⟨0, by simp, by simp, by simp, by omega, by simp, .refl⟩) ?_
    · rintro k t g ⟨i, t0, t1, ti, hi, hs, xg⟩
      refine Tells.prot fun Q2 hQ2 => ?_
      unfold L_precentorref1_SameFilter_2
      have og := o.ext xg
      have pg := p.ext xg
      simp [t0, ti, og.len]
      refine Tells.cb (fun hc => ?_) (fun hc => ?_)
      · simp at hc
        have hc1 : i < l.length := by omega
        obtain ⟨x, hx⟩ : ∃ x, l[i]? = some x := ⟨_, List.getElem?_eq_getElem hc1⟩
        obtain ⟨y, hy⟩ : ∃ y, m[i]? = some y := ⟨_, List.getElem?_eq_getElem (by omega)⟩
        obtain ⟨b1, p1, B1, c1, q1, q2, q3⟩ := og.at (n := 13) rfl (i := (i : Int)) (by omega) (by simpa using hx)
        obtain ⟨b2, p2, B2, c2, r1, r2, r3⟩ := pg.at (n := 13) rfl (i := (i : Int)) (by omega) (by simpa using hy)
        have w : IntKind.i64.wrap ((i : Int) + 1) = i + 1 := wrap_id (by omega) (by omega)
        have q4 := q2.lda (n := 13) ((prR).len q3)
        have r4 := r2.lda (n := 13) ((prR).len r3)
        have e := sameL_drop (f := samePr) hx hy
        simp [J_precentorref1_SameFilter_3, t0, t1, ti, q1, q4, r1, r4]
        refine Tells.cbE (ref_SamePred hX q3 r3 (sz x (List.mem_of_getElem? hx)) (sz2 y (List.mem_of_getElem? hy))) ?_
        rintro _ g1 ⟨rfl, x1⟩
        cases hf : samePr x y with
        | false =>
          try simp
          exact Tells.ok (hQ2 _ _ (.inr ⟨by simp, .inr ⟨rfl, by simp, by rw [hs, e, hf]; rfl⟩, xg.trans x1⟩))
        | true =>
          simp [J_precentorref1_SameFilter_4, ti, w]
          exact Tells.ok (hQ2 _ _ (.inl ⟨rfl, k - 1, by omega, i + 1, by simp [t0], by simp [t1], by simp, by omega, by rw [hs, e, hf]; rfl, xg.trans x1⟩))
      · simp at hc
        refine Tells.ok (hQ2 _ _ (.inr ⟨by simp, .inl ⟨rfl, ?_⟩, xg⟩))
        rw [hs, List.drop_eq_nil_of_le (by omega), List.drop_eq_nil_of_le (by omega)]
        rfl
    · rintro ⟨ex, t⟩ g ⟨⟨rfl, he⟩ | ⟨rfl, t4, he⟩, xg⟩
      · simp [J_precentorref1_SameFilter_1]
        exact Tells.ok (hQ _ _ ⟨by rw [he], xg⟩)
      · have t4 : t 4 = .bool false := t4
        simp [t4]
        exact Tells.ok (hQ _ _ ⟨by rw [he], xg⟩)
  · have hn : ((l.length : Int) != (m.length : Int)) = true := by simp; omega
    simp [o.len, p.len, hn]
    exact Tells.ok (hQ _ _ ⟨by rw [sameL_len hlm], .refl⟩)

theorem ref_SameSub (hX : OnlyKnown X) {h : Heap} {c d : List AVal} {x y : Sx} (r : sxR.rep h c x) (s : sxR.rep h d y) (z1 : SzX x) (z2 : SzX y) : Tells (fun q => acallX Try.prog X q F_precentorref1_SameSub [.agg c, .agg d] h) fun r h' => r = .bool (sameSx x y) ∧ Ext [] h h' := by
  obtain ⟨sv, rfl, os, _⟩ := r
  obtain ⟨sw, rfl, ow, _⟩ := s
  refine R_precentorref1_SameSub _ _ (hX _ _ rfl) ?_
  refine Tells.prot fun Q' hQ => ?_
  unfold S_precentorref1_SameSub
  simp [sxC]
  refine Tells.box rfl rfl fun h1 ba o1 x1 l1 => ?_
  have o1 : Ob h1 ba (sxC x sv) := o1
  try simp
  refine Tells.box rfl rfl fun h2 bb o2 x2 l2 => ?_
  have o2 : Ob h2 bb (sxC y sw) := o2
  have o12 := o1.e x2
  have X2 := x1.trans x2
  cases e1 : (x.c == y.c) with
  | false =>
    simp [o12.1, o2.1, sxC, e1]
    exact Tells.ok (hQ _ _ ⟨by simp [sameSx, e1], X2⟩)
  | true =>
    cases e2 : (x.b == y.b) with
    | false =>
      simp [o12.1, o2.1, sxC, e1, e2]
      exact Tells.ok (hQ _ _ ⟨by simp [sameSx, e1, e2], X2⟩)
    | true =>
      cases e3 : (x.n == y.n) with
      | false =>
        simp [o12.1, o2.1, sxC, e1, e2, e3]
        exact Tells.ok (hQ _ _ ⟨by simp [sameSx, e1, e2, e3], X2⟩)
      | true =>
        simp [o12.1, o2.1, sxC, e1, e2, e3]
        refine Tells.bind (ref_SameFilter hX (os.ext X2) (ow.ext X2) z1.1 z1.2 z2.2) ?_
        rintro _ h5 ⟨rfl, x5⟩
        try simp
        exact Tells.ok (hQ _ _ ⟨by simp [sameSx, e1, e2, e3], X2.trans x5⟩)

end
end Go.Proofs.Ytbolfamaffbnnaa

/-! What Word tells. -/
namespace Go.Proofs.Ytbolfamaffbnnaa
open Go.Ab

section
variable {X : XTab}

def letterB (b : UInt8) : Bool := !(decide ((b.toNat : Int) < 97) || decide (122 < (b.toNat : Int)))

def wordB (s : ByteArray) : Bool := s.data.toList.all letterB && (decide (1 ≤ s.size) && decide (s.size ≤ 6))

theorem attr_Word (hX : OnlyKnown X) (s : ByteArray) (hs : s.size < 2 ^ 63) (h : Heap) : Tells (fun q => acallX Try.prog X q F_attr_Word [.str s] h) fun r h' => r = .bool (wordB s) ∧ h' = h := by
  refine R_attr_Word _ (hX _ _ rfl) ?_
  refine Tells.prot fun Q' hQ => ?_
  have hsz : s.data.toList.length = s.size := rfl
  unfold S_attr_Word
  try simp
  refine Tells.bind (Tells.loop (fun n t g => ∃ i : Nat, t 0 = .str s ∧ t 3 = I i ∧ i + n = s.size ∧ g = h ∧ s.data.toList.all letterB = (s.data.toList.drop i).all letterB)
    (Q := fun p g => g = h ∧ ((p.1 = .exit 0 ∧ p.2 0 = .str s ∧ s.data.toList.all letterB = true) ∨ (p.1 = .ret ∧ p.2 2 = .bool false ∧ s.data.toList.all letterB = false))) ?_ s.size _ _ ?_) ?_
  · rintro n t g ⟨i, t0, t3, hi, rfl, ha⟩
    refine Tells.prot fun Q2 hQ2 => ?_
    unfold L_attr_Word_1
    simp [t0, t3, lenS]
    refine Tells.cb (fun hc => ?_) (fun hc => ?_)
    · simp at hc
      have w : IntKind.i64.wrap ((i : Int) + 1) = i + 1 := wrap_id (by omega) (by omega)
      have hlt : i < s.data.toList.length := by omega
      obtain ⟨b, hb⟩ : ∃ b, s.data.toList[i]? = some b := ⟨_, List.getElem?_eq_getElem hlt⟩
      have hd : s.data.toList.drop i = b :: s.data.toList.drop (i + 1) := by rw [List.drop_eq_getElem_cons hlt, (List.getElem?_eq_some_iff.1 hb).2]
      have ix : ixtR (.str s) (I i) = some (.int .u8 b.toNat) := by
        simp only [ixtR]
        rw [if_pos (by omega)]
        simp only [Int.toNat_natCast, hb]
      rw [hd, List.all_cons] at ha
      by_cases c1 : (b.toNat : Int) < 97
      · simp [J_attr_Word_2, t0, t3, ix, c1]
        exact Tells.ok (hQ2 _ _ (.inr ⟨by simp, rfl, .inr ⟨rfl, by simp, by rw [ha]; simp [letterB, c1]⟩⟩))
      · by_cases c2 : 122 < (b.toNat : Int)
        · simp [J_attr_Word_2, t0, t3, ix, c1, c2]
          exact Tells.ok (hQ2 _ _ (.inr ⟨by simp, rfl, .inr ⟨rfl, by simp, by rw [ha]; simp [letterB, c1, c2]⟩⟩))
        · simp [J_attr_Word_2, t0, t3, ix, c1, c2, J_attr_Word_3, w]
          exact Tells.ok (hQ2 _ _ (.inl ⟨rfl, n - 1, by omega, i + 1, by simp [t0], by simp, by omega, rfl, by rw [ha]; simp [letterB, c1, c2]⟩))
    · simp at hc
      exact Tells.ok (hQ2 _ _ (.inr ⟨by simp, rfl, .inl ⟨rfl, by simp [t0], by rw [ha, List.drop_eq_nil_of_le (by omega)]; rfl⟩⟩))
  · exact ⟨0, by simp, by simp, by omega, rfl, rfl⟩
  · rintro ⟨ex, t⟩ g ⟨rfl, ⟨rfl, t0, ha⟩ | ⟨rfl, t2, ha⟩⟩
    · simp only at t0
      by_cases c1 : 1 ≤ (s.size : Int)
      · simp [J_attr_Word_0, t0, lenS, c1]
        exact Tells.ok (hQ _ _ ⟨by rw [wordB, ha]; simp [show 1 ≤ s.size by omega]; omega, rfl⟩)
      · have : s.size = 0 := by omega
        simp [J_attr_Word_0, t0, lenS, this]
        exact Tells.ok (hQ _ _ ⟨by rw [wordB, ha]; simp [this], rfl⟩)
    · simp only at t2
      simp [t2]
      exact Tells.ok (hQ _ _ ⟨by rw [wordB, ha]; rfl, rfl⟩)

theorem ref_Word (hX : OnlyKnown X) (s : ByteArray) (hs : s.size < 2 ^ 63) (h : Heap) : Tells (fun q => acallX Try.prog X q F_precentorref1_Word [.str s] h) fun r h' => r = .bool (wordB s) ∧ h' = h := by
  refine R_precentorref1_Word _ (hX _ _ rfl) ?_
  refine Tells.prot fun Q' hQ => ?_
  have hsz : s.data.toList.length = s.size := rfl
  unfold S_precentorref1_Word
  try simp
  refine Tells.bind (Tells.loop (fun n t g => ∃ i : Nat, t 0 = .str s ∧ t 3 = I i ∧ i + n = s.size ∧ g = h ∧ s.data.toList.all letterB = (s.data.toList.drop i).all letterB)
    (Q := fun p g => g = h ∧ ((p.1 = .exit 0 ∧ p.2 0 = .str s ∧ s.data.toList.all letterB = true) ∨ (p.1 = .ret ∧ p.2 2 = .bool false ∧ s.data.toList.all letterB = false))) ?_ s.size _ _ ?_) ?_
  · rintro n t g ⟨i, t0, t3, hi, rfl, ha⟩
    refine Tells.prot fun Q2 hQ2 => ?_
    unfold L_precentorref1_Word_1
    simp [t0, t3, lenS]
    refine Tells.cb (fun hc => ?_) (fun hc => ?_)
    · simp at hc
      have w : IntKind.i64.wrap ((i : Int) + 1) = i + 1 := wrap_id (by omega) (by omega)
      have hlt : i < s.data.toList.length := by omega
      obtain ⟨b, hb⟩ : ∃ b, s.data.toList[i]? = some b := ⟨_, List.getElem?_eq_getElem hlt⟩
      have hd : s.data.toList.drop i = b :: s.data.toList.drop (i + 1) := by rw [List.drop_eq_getElem_cons hlt, (List.getElem?_eq_some_iff.1 hb).2]
      have ix : ixtR (.str s) (I i) = some (.int .u8 b.toNat) := by
        simp only [ixtR]
        rw [if_pos (by omega)]
        simp only [Int.toNat_natCast, hb]
      rw [hd, List.all_cons] at ha
      by_cases c1 : (b.toNat : Int) < 97
      · simp [J_precentorref1_Word_2, t0, t3, ix, c1]
        exact Tells.ok (hQ2 _ _ (.inr ⟨by simp, rfl, .inr ⟨rfl, by simp, by rw [ha]; simp [letterB, c1]⟩⟩))
      · by_cases c2 : 122 < (b.toNat : Int)
        · simp [J_precentorref1_Word_2, t0, t3, ix, c1, c2]
          exact Tells.ok (hQ2 _ _ (.inr ⟨by simp, rfl, .inr ⟨rfl, by simp, by rw [ha]; simp [letterB, c1, c2]⟩⟩))
        · simp [J_precentorref1_Word_2, t0, t3, ix, c1, c2, J_precentorref1_Word_3, w]
          exact Tells.ok (hQ2 _ _ (.inl ⟨rfl, n - 1, by omega, i + 1, by simp [t0], by simp, by omega, rfl, by rw [ha]; simp [letterB, c1, c2]⟩))
    · simp at hc
      exact Tells.ok (hQ2 _ _ (.inr ⟨by simp, rfl, .inl ⟨rfl, by simp [t0], by rw [ha, List.drop_eq_nil_of_le (by omega)]; rfl⟩⟩))
  · exact ⟨0, by simp, by simp, by omega, rfl, rfl⟩
  · rintro ⟨ex, t⟩ g ⟨rfl, ⟨rfl, t0, ha⟩ | ⟨rfl, t2, ha⟩⟩
    · simp only at t0
      by_cases c1 : 1 ≤ (s.size : Int)
      · simp [J_precentorref1_Word_0, t0, lenS, c1]
        exact Tells.ok (hQ _ _ ⟨by rw [wordB, ha]; simp [show 1 ≤ s.size by omega]; omega, rfl⟩)
      · have : s.size = 0 := by omega
        simp [J_precentorref1_Word_0, t0, lenS, this]
        exact Tells.ok (hQ _ _ ⟨by rw [wordB, ha]; simp [this], rfl⟩)
    · simp only at t2
      simp [t2]
      exact Tells.ok (hQ _ _ ⟨by rw [wordB, ha]; rfl, rfl⟩)

end
end Go.Proofs.Ytbolfamaffbnnaa

/-! Right tests and filters (printed by mk22.py). -/
namespace Go.Proofs.Ytbolfamaffbnnaa
open Go.Ab

section
variable {X : XTab}

def zeroB (v : Vl) : Bool := sameV v vl0

def rightP (p : Prd) : Bool := wordB p.name && (if p.test = 1 then zeroB p.v && (zeroB p.w && decide (p.set.length = 0)) else if 2 ≤ p.test ∧ p.test ≤ 7 then rightV p.v && (zeroB p.w && decide (p.set.length = 0))
  else if p.test = 8 then rightV p.v && (rightV p.w && decide (p.set.length = 0)) else if p.test = 9 then rightV p.v && (p.v.k == 3 && (zeroB p.w && decide (p.set.length = 0)))
  else if p.test = 10 then zeroB p.v && (zeroB p.w && (decide (1 ≤ p.set.length) && (decide (p.set.length ≤ 4) && p.set.all rightV))) else false)

def rightFs : Option ByteArray → List Prd → Bool
  | _, [] => true
  | q, p :: r => (rightP p && (match q with | some n => (Op.bytesLess n.toList p.name.toList || n.toList == p.name.toList) | none => true)) && rightFs (some p.name) r

def rightFl (fl : List Prd) : Bool := decide (fl.length ≤ 3) && rightFs none fl

def prevP (l : List Prd) (i : Nat) : Option ByteArray := if i = 0 then none else (l[i - 1]?).map (·.name)

theorem prevP_succ {l : List Prd} {i : Nat} {p : Prd} (h : l[i]? = some p) : prevP l (i + 1) = some p.name := by simp [prevP, h]

theorem rightFs_drop {l : List Prd} {i : Nat} {p : Prd} (h : l[i]? = some p) : rightFs (prevP l i) (l.drop i) = ((rightP p && (match prevP l i with | some n => (Op.bytesLess n.toList p.name.toList || n.toList == p.name.toList) | none => true)) && rightFs (prevP l (i + 1)) (l.drop (i + 1))) := by
  rw [prevP_succ h, List.drop_eq_getElem_cons (List.getElem?_eq_some_iff.1 h).1, (List.getElem?_eq_some_iff.1 h).2]
  rfl

def SzN (p : Prd) : Prop := p.set.length < 2 ^ 63 ∧ p.name.size < 2 ^ 63

theorem pred_zero (hX : OnlyKnown X) (v : Vl) (h : Heap) : Tells (fun q => acallX Try.prog X q F_pred_zero [.agg (vlC v)] h) fun r h' => r = .bool (zeroB v) ∧ Ext [] h h' := by
  refine R_pred_zero _ (hX _ _ rfl) ?_
  refine Tells.prot fun Q' hQ => ?_
  unfold S_pred_zero
  simp [vlC]
  refine Tells.box rfl rfl fun h1 b o1 x1 l1 => ?_
  have o1 : Ob h1 b (vlC v) := o1
  simp [o1.1, vlC, bldR, fillR, splice]
  refine Tells.bind (value_Same hX v vl0 h1) ?_
  rintro _ h2 ⟨rfl, x2⟩
  try simp
  exact Tells.ok (hQ _ _ ⟨rfl, x1.trans x2⟩)

theorem ref_zero (hX : OnlyKnown X) (v : Vl) (h : Heap) : Tells (fun q => acallX Try.prog X q F_precentorref1_zero [.agg (vlC v)] h) fun r h' => r = .bool (zeroB v) ∧ Ext [] h h' := by
  refine R_precentorref1_zero _ (hX _ _ rfl) ?_
  refine Tells.prot fun Q' hQ => ?_
  unfold S_precentorref1_zero
  simp [vlC]
  refine Tells.box rfl rfl fun h1 b o1 x1 l1 => ?_
  have o1 : Ob h1 b (vlC v) := o1
  simp [o1.1, vlC, bldR, fillR, splice]
  refine Tells.bind (ref_SameValue hX v vl0 h1) ?_
  rintro _ h2 ⟨rfl, x2⟩
  try simp
  exact Tells.ok (hQ _ _ ⟨rfl, x1.trans x2⟩)

theorem pred_values (hX : OnlyKnown X) {h : Heap} {a : AVal} {l : List Vl} (o : SlN vlR h a l) (hl : l.length < 2 ^ 63) : Tells (fun q => acallX Try.prog X q F_pred_values [a] h) fun r h' => r = .bool (l.all rightV) ∧ Ext [] h h' := by
  refine R_pred_values _ (hX _ _ rfl) ?_
  refine Tells.prot fun Q' hQ => ?_
  unfold S_pred_values
  simp [o.len]
  refine Tells.bind (Tells.loop (fun k t g => ∃ i : Nat, t 5 = a ∧ t 6 = I l.length ∧ t 7 = I i ∧ i + k = l.length ∧ l.all rightV = (l.drop i).all rightV ∧ Ext [] h g)
    (Q := fun r g => ((r.1 = .exit 0 ∧ l.all rightV = true) ∨ (r.1 = .ret ∧ r.2 2 = .bool false ∧ l.all rightV = false)) ∧ Ext [] h g) ?_ l.length _ _ ⟨0, by simp, by simp, by simp, by omega, by simp, .refl⟩) ?_
  · rintro k t g ⟨i, t5, t6, t7, hi, hs, xg⟩
    refine Tells.prot fun Q2 hQ2 => ?_
    unfold L_pred_values_1
    have og := o.ext xg
    simp [t6, t7]
    refine Tells.cb (fun hc => ?_) (fun hc => ?_)
    · simp at hc
      obtain ⟨x, hx⟩ : ∃ x, l[i]? = some x := ⟨_, List.getElem?_eq_getElem hc⟩
      obtain ⟨b1, p1, B1, c1, q1, q2, q3⟩ := og.at (n := 5) rfl (i := (i : Int)) (by omega) (by simpa using hx)
      have q3 : c1 = vlC x := q3
      subst q3
      have w : IntKind.i64.wrap ((i : Int) + 1) = i + 1 := wrap_id (by omega) (by omega)
      have q4 := q2.lda (n := 5) rfl
      have e : (l.drop i).all rightV = (rightV x && (l.drop (i + 1)).all rightV) := by rw [List.drop_eq_getElem_cons hc, (List.getElem?_eq_some_iff.1 hx).2, List.all_cons]
      simp [J_pred_values_2, t5, t7, q1, q4]
      refine Tells.newSt (ds := vlC x) (by rfl) (by rfl) (by rfl) (by rfl) fun g1 bp op x1 l1 => ?_
      simp [op.1, vlC]
      refine Tells.bind (value_RightG hX x g1) ?_
      rintro _ g2 ⟨rfl, x2⟩
      cases hf : rightV x with
      | false =>
        try simp
        exact Tells.ok (hQ2 _ _ (.inr ⟨by simp, .inr ⟨rfl, by simp, by rw [hs, e, hf]; rfl⟩, (xg.trans x1).trans x2⟩))
      | true =>
        simp [J_pred_values_3, t7, w]
        exact Tells.ok (hQ2 _ _ (.inl ⟨rfl, k - 1, by omega, i + 1, by simp [t5], by simp [t6], by simp, by omega, by rw [hs, e, hf]; rfl, (xg.trans x1).trans x2⟩))
    · simp at hc
      refine Tells.ok (hQ2 _ _ (.inr ⟨by simp, .inl ⟨rfl, ?_⟩, xg⟩))
      rw [hs, List.drop_eq_nil_of_le (by omega)]
      rfl
  · rintro ⟨ex, t⟩ g ⟨⟨rfl, he⟩ | ⟨rfl, t2, he⟩, xg⟩
    · simp [J_pred_values_0]
      exact Tells.ok (hQ _ _ ⟨by rw [he], xg⟩)
    · have t2 : t 2 = .bool false := t2
      simp [t2]
      exact Tells.ok (hQ _ _ ⟨by rw [he], xg⟩)

theorem pred_Right (hX : OnlyKnown X) {h : Heap} {c : List AVal} {x : Prd} (r : prR.rep h c x) (z1 : SzN x) : Tells (fun q => acallX Try.prog X q F_pred_Right [.agg c] h) fun r h' => r = .bool (rightP x) ∧ Ext [] h h' := by
  obtain ⟨sv, rfl, os, _⟩ := r
  refine R_pred_Right _ (hX _ _ rfl) ?_
  refine Tells.prot fun Q' hQ => ?_
  unfold S_pred_Right
  simp [prC, vlC]
  refine Tells.box rfl rfl fun h1 bp o1 x1 l1 => ?_
  have o1 : Ob h1 bp (prC x sv) := o1
  have os1 := os.ext x1
  simp [o1.1, prC, vlC]
  refine Tells.bind (attr_Word hX x.name z1.2 h1) ?_
  rintro _ h2 ⟨rfl, rfl⟩
  cases ew : wordB x.name with
  | false =>
    try simp
    exact Tells.ok (hQ _ _ ⟨by simp [rightP, ew], x1⟩)
  | true =>
    -- two values, and no set
    have l0 : ((x.set.length : Int) == 0) = decide (x.set.length = 0) := by
      by_cases q : x.set.length = 0
      · rw [q]; rfl
      · rw [beq_eq_false_iff_ne.2 (by omega)]; simp [q]
    have tail : ∀ (t : T), t 1 = .ptr bp 0 → t 8 = I x.test → t 25 = .bool (decide (2 ≤ x.test ∧ x.test ≤ 7)) → x.test ≠ 1 →
        Tells (fun m => J_pred_Right_2 Try.prog (acallX Try.prog X m) m (blkK 0 (sqK (J_pred_Right_1 Try.prog (acallX Try.prog X m) m (retK Try.prog [.tmp 2])) (retK Try.prog [.tmp 2]))) t h2) Q' := by
      intro t t1 tk tf n1
      by_cases c1 : 2 ≤ x.test ∧ x.test ≤ 7
      · have eP : rightP x = (rightV x.v && (zeroB x.w && decide (x.set.length = 0))) := by simp [rightP, ew, n1, c1]
        simp [J_pred_Right_2, tf, c1, t1, o1.1, prC, vlC]
        refine Tells.bind (value_RightG hX x.v h2) ?_
        rintro _ h3 ⟨rfl, x3⟩
        have o3 := o1.e x3
        cases e1 : rightV x.v with
        | false =>
          try simp
          exact Tells.ok (hQ _ _ ⟨by simp [eP, e1], x1.trans x3⟩)
        | true =>
          simp [t1, o3.1, prC, vlC]
          refine Tells.bind (pred_zero hX x.w h3) ?_
          rintro _ h4 ⟨rfl, x4⟩
          have o4 := o3.e x4
          cases e2 : zeroB x.w with
          | false =>
            try simp
            exact Tells.ok (hQ _ _ ⟨by simp [eP, e1, e2], (x1.trans x3).trans x4⟩)
          | true =>
            simp [t1, o4.1, prC, vlC, ((os1.ext x3).ext x4).len, l0]
            exact Tells.ok (hQ _ _ ⟨by simp [eP, e1, e2], (x1.trans x3).trans x4⟩)
      · by_cases c2 : x.test = 8
        · have eP : rightP x = (rightV x.v && (rightV x.w && decide (x.set.length = 0))) := by simp [rightP, ew, c2]
          simp [J_pred_Right_2, tf, tk, c1, c2, t1, o1.1, prC, vlC]
          refine Tells.bind (value_RightG hX x.v h2) ?_
          rintro _ h3 ⟨rfl, x3⟩
          have o3 := o1.e x3
          cases e1 : rightV x.v with
          | false =>
            try simp
            exact Tells.ok (hQ _ _ ⟨by simp [eP, e1], x1.trans x3⟩)
          | true =>
            simp [t1, o3.1, prC, vlC]
            refine Tells.bind (value_RightG hX x.w h3) ?_
            rintro _ h4 ⟨rfl, x4⟩
            have o4 := o3.e x4
            cases e2 : rightV x.w with
            | false =>
              try simp
              exact Tells.ok (hQ _ _ ⟨by simp [eP, e1, e2], (x1.trans x3).trans x4⟩)
            | true =>
              simp [t1, o4.1, prC, vlC, ((os1.ext x3).ext x4).len, l0]
              exact Tells.ok (hQ _ _ ⟨by simp [eP, e1, e2], (x1.trans x3).trans x4⟩)
        · have b2 : (x.test == 8) = false := beq_eq_false_iff_ne.2 c2
          by_cases c3 : x.test = 9
          · have eP : rightP x = (rightV x.v && (x.v.k == 3 && (zeroB x.w && decide (x.set.length = 0)))) := by simp [rightP, ew, c3]
            simp [J_pred_Right_2, tf, tk, c1, c3, t1, o1.1, prC, vlC]
            refine Tells.bind (value_RightG hX x.v h2) ?_
            rintro _ h3 ⟨rfl, x3⟩
            have o3 := o1.e x3
            cases e1 : rightV x.v with
            | false =>
              try simp
              exact Tells.ok (hQ _ _ ⟨by simp [eP, e1], x1.trans x3⟩)
            | true =>
              cases e3 : (x.v.k == 3) with
              | false =>
                simp [t1, o3.1, prC, vlC, e3]
                exact Tells.ok (hQ _ _ ⟨by simp [eP, e1, e3], x1.trans x3⟩)
              | true =>
                simp [t1, o3.1, prC, vlC, e3]
                refine Tells.bind (pred_zero hX x.w h3) ?_
                rintro _ h4 ⟨rfl, x4⟩
                have o4 := o3.e x4
                cases e2 : zeroB x.w with
                | false =>
                  try simp
                  exact Tells.ok (hQ _ _ ⟨by simp [eP, e1, e2, e3], (x1.trans x3).trans x4⟩)
                | true =>
                  simp [t1, o4.1, prC, vlC, ((os1.ext x3).ext x4).len, l0]
                  exact Tells.ok (hQ _ _ ⟨by simp [eP, e1, e2, e3], (x1.trans x3).trans x4⟩)
          · have b3 : (x.test == 9) = false := beq_eq_false_iff_ne.2 c3
            by_cases c4 : x.test = 10
            · have eP : rightP x = (zeroB x.v && (zeroB x.w && (decide (1 ≤ x.set.length) && (decide (x.set.length ≤ 4) && x.set.all rightV)))) := by simp [rightP, ew, c4]
              simp [J_pred_Right_2, tf, tk, c1, c4, t1, o1.1, prC, vlC]
              refine Tells.bind (pred_zero hX x.v h2) ?_
              rintro _ h3 ⟨rfl, x3⟩
              have o3 := o1.e x3
              cases e1 : zeroB x.v with
              | false =>
                try simp
                exact Tells.ok (hQ _ _ ⟨by simp [eP, e1], x1.trans x3⟩)
              | true =>
                simp [t1, o3.1, prC, vlC]
                refine Tells.bind (pred_zero hX x.w h3) ?_
                rintro _ h4 ⟨rfl, x4⟩
                have o4 := o3.e x4
                have os4 := (os1.ext x3).ext x4
                have X4 := (x1.trans x3).trans x4
                cases e2 : zeroB x.w with
                | false =>
                  try simp
                  exact Tells.ok (hQ _ _ ⟨by simp [eP, e1, e2], X4⟩)
                | true =>
                  by_cases s1 : 1 ≤ x.set.length
                  · have s1' : (1 : Int) ≤ x.set.length := by omega
                    by_cases s2 : x.set.length ≤ 4
                    · have s2' : (x.set.length : Int) ≤ 4 := by omega
                      simp [t1, o4.1, prC, vlC, os4.len, s1, s1', s2, s2']
                      refine Tells.bind (pred_values hX os4 z1.1) ?_
                      rintro _ h5 ⟨rfl, x5⟩
                      try simp
                      exact Tells.ok (hQ _ _ ⟨by simp [eP, e1, e2, s1, s2], X4.trans x5⟩)
                    · have s2' : ¬ (x.set.length : Int) ≤ 4 := by omega
                      simp [t1, o4.1, prC, vlC, os4.len, s1, s1', s2, s2']
                      exact Tells.ok (hQ _ _ ⟨by simp [eP, e1, e2, s1, s2], X4⟩)
                  · have s1' : ¬ (1 : Int) ≤ x.set.length := by omega
                    simp [t1, o4.1, prC, vlC, os4.len, s1, s1']
                    exact Tells.ok (hQ _ _ ⟨by simp [eP, e1, e2, s1], X4⟩)
            · have b4 : (x.test == 10) = false := beq_eq_false_iff_ne.2 c4
              have eP : rightP x = false := by simp [rightP, ew, n1, c1, c2, c3, c4]
              simp [J_pred_Right_2, tf, tk, c1, b2, b3, b4, J_pred_Right_1]
              exact Tells.ok (hQ _ _ ⟨by simp [eP], x1⟩)
    by_cases c1 : x.test = 1
    · have eP : rightP x = (zeroB x.v && (zeroB x.w && decide (x.set.length = 0))) := by simp [rightP, ew, c1]
      simp [J_pred_Right_0, o1.1, prC, vlC, c1]
      refine Tells.bind (pred_zero hX x.v h2) ?_
      rintro _ h3 ⟨rfl, x3⟩
      have o3 := o1.e x3
      cases e1 : zeroB x.v with
      | false =>
        try simp
        exact Tells.ok (hQ _ _ ⟨by simp [eP, e1], x1.trans x3⟩)
      | true =>
        simp [o3.1, prC, vlC]
        refine Tells.bind (pred_zero hX x.w h3) ?_
        rintro _ h4 ⟨rfl, x4⟩
        have o4 := o3.e x4
        cases e2 : zeroB x.w with
        | false =>
          try simp
          exact Tells.ok (hQ _ _ ⟨by simp [eP, e1, e2], (x1.trans x3).trans x4⟩)
        | true =>
          simp [o4.1, prC, vlC, ((os1.ext x3).ext x4).len, l0]
          exact Tells.ok (hQ _ _ ⟨by simp [eP, e1, e2], (x1.trans x3).trans x4⟩)
    · have b1 : (x.test == 1) = false := beq_eq_false_iff_ne.2 c1
      simp [J_pred_Right_0, o1.1, prC, vlC, b1]
      by_cases d2 : x.test = 2
      · simp [d2]
        exact tail _ (by simp) (by simp [d2]) (by simp [d2]) c1
      · have k2 : (x.test == 2) = false := beq_eq_false_iff_ne.2 d2
        by_cases d3 : x.test = 3
        · simp [k2, d3]
          exact tail _ (by simp) (by simp [d3]) (by simp [d3]) c1
        · have k3 : (x.test == 3) = false := beq_eq_false_iff_ne.2 d3
          by_cases d4 : x.test = 4
          · simp [k2, k3, d4]
            exact tail _ (by simp) (by simp [d4]) (by simp [d4]) c1
          · have k4 : (x.test == 4) = false := beq_eq_false_iff_ne.2 d4
            by_cases d5 : x.test = 5
            · simp [k2, k3, k4, d5]
              exact tail _ (by simp) (by simp [d5]) (by simp [d5]) c1
            · have k5 : (x.test == 5) = false := beq_eq_false_iff_ne.2 d5
              by_cases d6 : x.test = 6
              · simp [k2, k3, k4, k5, d6]
                exact tail _ (by simp) (by simp [d6]) (by simp [d6]) c1
              · have k6 : (x.test == 6) = false := beq_eq_false_iff_ne.2 d6
                have k7 : (x.test == 7) = decide (2 ≤ x.test ∧ x.test ≤ 7) := by
                  by_cases q : x.test = 7
                  · rw [q]; decide
                  · rw [beq_eq_false_iff_ne.2 q]
                    have : ¬ (2 ≤ x.test ∧ x.test ≤ 7) := by omega
                    simp [this]
                simp [k2, k3, k4, k5, k6]
                exact tail _ (by simp) (by simp) (by simp [k7]) c1

theorem ref_RightPred (hX : OnlyKnown X) {h : Heap} {c : List AVal} {x : Prd} (r : prR.rep h c x) (z1 : SzN x) : Tells (fun q => acallX Try.prog X q F_precentorref1_RightPred [.agg c] h) fun r h' => r = .bool (rightP x) ∧ Ext [] h h' := by
  obtain ⟨sv, rfl, os, _⟩ := r
  refine R_precentorref1_RightPred _ (hX _ _ rfl) ?_
  refine Tells.prot fun Q' hQ => ?_
  unfold S_precentorref1_RightPred
  simp [prC, vlC]
  refine Tells.box rfl rfl fun h1 bp o1 x1 l1 => ?_
  have o1 : Ob h1 bp (prC x sv) := o1
  have os1 := os.ext x1
  simp [o1.1, prC, vlC]
  refine Tells.bind (ref_Word hX x.name z1.2 h1) ?_
  rintro _ h2 ⟨rfl, rfl⟩
  cases ew : wordB x.name with
  | false =>
    try simp
    exact Tells.ok (hQ _ _ ⟨by simp [rightP, ew], x1⟩)
  | true =>
    -- two values, and no set
    have l0 : ((x.set.length : Int) == 0) = decide (x.set.length = 0) := by
      by_cases q : x.set.length = 0
      · rw [q]; rfl
      · rw [beq_eq_false_iff_ne.2 (by omega)]; simp [q]
    have tail : ∀ (t : T), t 1 = .ptr bp 0 → t 9 = I x.test → t 26 = .bool (decide (2 ≤ x.test ∧ x.test ≤ 7)) → x.test ≠ 1 →
        Tells (fun m => J_precentorref1_RightPred_2 Try.prog (acallX Try.prog X m) m (blkK 0 (sqK (J_precentorref1_RightPred_1 Try.prog (acallX Try.prog X m) m (retK Try.prog [.tmp 2])) (retK Try.prog [.tmp 2]))) t h2) Q' := by
      intro t t1 tk tf n1
      by_cases c1 : 2 ≤ x.test ∧ x.test ≤ 7
      · have eP : rightP x = (rightV x.v && (zeroB x.w && decide (x.set.length = 0))) := by simp [rightP, ew, n1, c1]
        simp [J_precentorref1_RightPred_2, tf, c1, t1, o1.1, prC, vlC]
        refine Tells.bind (ref_RightValue hX x.v h2) ?_
        rintro _ h3 ⟨rfl, x3⟩
        have o3 := o1.e x3
        cases e1 : rightV x.v with
        | false =>
          try simp
          exact Tells.ok (hQ _ _ ⟨by simp [eP, e1], x1.trans x3⟩)
        | true =>
          simp [t1, o3.1, prC, vlC]
          refine Tells.bind (ref_zero hX x.w h3) ?_
          rintro _ h4 ⟨rfl, x4⟩
          have o4 := o3.e x4
          cases e2 : zeroB x.w with
          | false =>
            try simp
            exact Tells.ok (hQ _ _ ⟨by simp [eP, e1, e2], (x1.trans x3).trans x4⟩)
          | true =>
            simp [t1, o4.1, prC, vlC, ((os1.ext x3).ext x4).len, l0]
            exact Tells.ok (hQ _ _ ⟨by simp [eP, e1, e2], (x1.trans x3).trans x4⟩)
      · by_cases c2 : x.test = 8
        · have eP : rightP x = (rightV x.v && (rightV x.w && decide (x.set.length = 0))) := by simp [rightP, ew, c2]
          simp [J_precentorref1_RightPred_2, tf, tk, c1, c2, t1, o1.1, prC, vlC]
          refine Tells.bind (ref_RightValue hX x.v h2) ?_
          rintro _ h3 ⟨rfl, x3⟩
          have o3 := o1.e x3
          cases e1 : rightV x.v with
          | false =>
            try simp
            exact Tells.ok (hQ _ _ ⟨by simp [eP, e1], x1.trans x3⟩)
          | true =>
            simp [t1, o3.1, prC, vlC]
            refine Tells.bind (ref_RightValue hX x.w h3) ?_
            rintro _ h4 ⟨rfl, x4⟩
            have o4 := o3.e x4
            cases e2 : rightV x.w with
            | false =>
              try simp
              exact Tells.ok (hQ _ _ ⟨by simp [eP, e1, e2], (x1.trans x3).trans x4⟩)
            | true =>
              simp [t1, o4.1, prC, vlC, ((os1.ext x3).ext x4).len, l0]
              exact Tells.ok (hQ _ _ ⟨by simp [eP, e1, e2], (x1.trans x3).trans x4⟩)
        · have b2 : (x.test == 8) = false := beq_eq_false_iff_ne.2 c2
          by_cases c3 : x.test = 9
          · have eP : rightP x = (rightV x.v && (x.v.k == 3 && (zeroB x.w && decide (x.set.length = 0)))) := by simp [rightP, ew, c3]
            simp [J_precentorref1_RightPred_2, tf, tk, c1, c3, t1, o1.1, prC, vlC]
            refine Tells.bind (ref_RightValue hX x.v h2) ?_
            rintro _ h3 ⟨rfl, x3⟩
            have o3 := o1.e x3
            cases e1 : rightV x.v with
            | false =>
              try simp
              exact Tells.ok (hQ _ _ ⟨by simp [eP, e1], x1.trans x3⟩)
            | true =>
              cases e3 : (x.v.k == 3) with
              | false =>
                simp [t1, o3.1, prC, vlC, e3]
                exact Tells.ok (hQ _ _ ⟨by simp [eP, e1, e3], x1.trans x3⟩)
              | true =>
                simp [t1, o3.1, prC, vlC, e3]
                refine Tells.bind (ref_zero hX x.w h3) ?_
                rintro _ h4 ⟨rfl, x4⟩
                have o4 := o3.e x4
                cases e2 : zeroB x.w with
                | false =>
                  try simp
                  exact Tells.ok (hQ _ _ ⟨by simp [eP, e1, e2, e3], (x1.trans x3).trans x4⟩)
                | true =>
                  simp [t1, o4.1, prC, vlC, ((os1.ext x3).ext x4).len, l0]
                  exact Tells.ok (hQ _ _ ⟨by simp [eP, e1, e2, e3], (x1.trans x3).trans x4⟩)
          · have b3 : (x.test == 9) = false := beq_eq_false_iff_ne.2 c3
            by_cases c4 : x.test = 10
            · have eP : rightP x = (zeroB x.v && (zeroB x.w && (decide (1 ≤ x.set.length) && (decide (x.set.length ≤ 4) && x.set.all rightV)))) := by simp [rightP, ew, c4]
              have zz : x.set.length < 2 ^ 63 := z1.1
              simp [J_precentorref1_RightPred_2, tf, tk, c1, c4, t1]
              refine Tells.bind (Tells.loop (fun k t g => ∃ i : Nat, t 1 = .ptr bp 0 ∧ t 3 = I i ∧ i + k = x.set.length ∧ x.set.all rightV = (x.set.drop i).all rightV ∧ Ext [] h2 g)
                (Q := fun r g => ((r.1 = .exit 1 ∧ r.2 1 = .ptr bp 0 ∧ x.set.all rightV = true) ∨ (r.1 = .ret ∧ r.2 2 = .bool false ∧ x.set.all rightV = false)) ∧ Ext [] h2 g) ?_ x.set.length _ _ ⟨0, by simp [t1], by simp, by omega, by simp, .refl⟩) ?_
              · rintro k t g ⟨i, t1, t3, hi, hs, xg⟩
                refine Tells.prot fun Q2 hQ2 => ?_
                unfold L_precentorref1_RightPred_4
                have og := os1.ext xg
                have oo := o1.e xg
                simp [t1, t3, oo.1, prC, vlC, og.len]
                refine Tells.cb (fun hc => ?_) (fun hc => ?_)
                · simp at hc
                  obtain ⟨y, hy⟩ : ∃ y, x.set[i]? = some y := ⟨_, List.getElem?_eq_getElem hc⟩
                  obtain ⟨b1, p1, B1, c1, q1, q2, q3⟩ := og.at (n := 5) rfl (i := (i : Int)) (by omega) (by simpa using hy)
                  have q3 : c1 = vlC y := q3
                  subst q3
                  have w : IntKind.i64.wrap ((i : Int) + 1) = i + 1 := wrap_id (by omega) (by omega)
                  have q4 := q2.lda (n := 5) rfl
                  have e : (x.set.drop i).all rightV = (rightV y && (x.set.drop (i + 1)).all rightV) := by rw [List.drop_eq_getElem_cons hc, (List.getElem?_eq_some_iff.1 hy).2, List.all_cons]
                  simp [J_precentorref1_RightPred_5, t1, t3, oo.1, prC, vlC, q1]
                  simp [vlC] at q4
                  try simp [q4]
                  refine Tells.bind (ref_RightValue hX y g) ?_
                  rintro _ g2 ⟨rfl, x2⟩
                  cases hf : rightV y with
                  | false =>
                    try simp
                    exact Tells.ok (hQ2 _ _ (.inr ⟨by simp, .inr ⟨rfl, by simp, by rw [hs, e, hf]; rfl⟩, xg.trans x2⟩))
                  | true =>
                    simp [J_precentorref1_RightPred_6, t3, w]
                    exact Tells.ok (hQ2 _ _ (.inl ⟨rfl, k - 1, by omega, i + 1, by simp [t1], by simp, by omega, by rw [hs, e, hf]; rfl, xg.trans x2⟩))
                · simp at hc
                  refine Tells.ok (hQ2 _ _ (.inr ⟨by simp, .inl ⟨rfl, by simp [t1], ?_⟩, xg⟩))
                  rw [hs, List.drop_eq_nil_of_le (by omega)]
                  rfl
              · rintro ⟨ex, t⟩ g ⟨⟨rfl, t1, he⟩ | ⟨rfl, t2, he⟩, xg⟩
                · have t1 : t 1 = .ptr bp 0 := t1
                  have og := o1.e xg
                  have X2 := x1.trans xg
                  have osg := os1.ext xg
                  simp [J_precentorref1_RightPred_3, t1, og.1, prC, vlC]
                  refine Tells.bind (ref_zero hX x.v g) ?_
                  rintro _ h3 ⟨rfl, x3⟩
                  have o3 := og.e x3
                  cases e1 : zeroB x.v with
                  | false =>
                    try simp
                    exact Tells.ok (hQ _ _ ⟨by simp [eP, e1], X2.trans x3⟩)
                  | true =>
                    simp [t1, o3.1, prC, vlC]
                    refine Tells.bind (ref_zero hX x.w h3) ?_
                    rintro _ h4 ⟨rfl, x4⟩
                    have o4 := o3.e x4
                    have os4 := (osg.ext x3).ext x4
                    have X4 := (X2.trans x3).trans x4
                    cases e2 : zeroB x.w with
                    | false =>
                      try simp
                      exact Tells.ok (hQ _ _ ⟨by simp [eP, e1, e2], X4⟩)
                    | true =>
                      by_cases s1 : 1 ≤ x.set.length
                      · have s1' : (1 : Int) ≤ x.set.length := by omega
                        by_cases s2 : x.set.length ≤ 4
                        · have s2' : (x.set.length : Int) ≤ 4 := by omega
                          simp [t1, o4.1, prC, vlC, os4.len, s1, s1', s2, s2']
                          exact Tells.ok (hQ _ _ ⟨by simp [eP, e1, e2, s1, s2, he], X4⟩)
                        · have s2' : ¬ (x.set.length : Int) ≤ 4 := by omega
                          simp [t1, o4.1, prC, vlC, os4.len, s1, s1', s2, s2']
                          exact Tells.ok (hQ _ _ ⟨by simp [eP, e1, e2, s1, s2], X4⟩)
                      · have s1' : ¬ (1 : Int) ≤ x.set.length := by omega
                        simp [t1, o4.1, prC, vlC, os4.len, s1, s1']
                        exact Tells.ok (hQ _ _ ⟨by simp [eP, e1, e2, s1], X4⟩)
                · have t2 : t 2 = .bool false := t2
                  simp [t2]
                  exact Tells.ok (hQ _ _ ⟨by simp [eP, he], x1.trans xg⟩)
            · have b4 : (x.test == 10) = false := beq_eq_false_iff_ne.2 c4
              have eP : rightP x = false := by simp [rightP, ew, n1, c1, c2, c3, c4]
              simp [J_precentorref1_RightPred_2, tf, tk, c1, b2, b3, b4, J_precentorref1_RightPred_1]
              exact Tells.ok (hQ _ _ ⟨by simp [eP], x1⟩)
    by_cases c1 : x.test = 1
    · have eP : rightP x = (zeroB x.v && (zeroB x.w && decide (x.set.length = 0))) := by simp [rightP, ew, c1]
      simp [J_precentorref1_RightPred_0, o1.1, prC, vlC, c1]
      refine Tells.bind (ref_zero hX x.v h2) ?_
      rintro _ h3 ⟨rfl, x3⟩
      have o3 := o1.e x3
      cases e1 : zeroB x.v with
      | false =>
        try simp
        exact Tells.ok (hQ _ _ ⟨by simp [eP, e1], x1.trans x3⟩)
      | true =>
        simp [o3.1, prC, vlC]
        refine Tells.bind (ref_zero hX x.w h3) ?_
        rintro _ h4 ⟨rfl, x4⟩
        have o4 := o3.e x4
        cases e2 : zeroB x.w with
        | false =>
          try simp
          exact Tells.ok (hQ _ _ ⟨by simp [eP, e1, e2], (x1.trans x3).trans x4⟩)
        | true =>
          simp [o4.1, prC, vlC, ((os1.ext x3).ext x4).len, l0]
          exact Tells.ok (hQ _ _ ⟨by simp [eP, e1, e2], (x1.trans x3).trans x4⟩)
    · have b1 : (x.test == 1) = false := beq_eq_false_iff_ne.2 c1
      simp [J_precentorref1_RightPred_0, o1.1, prC, vlC, b1]
      by_cases d2 : x.test = 2
      · simp [d2]
        exact tail _ (by simp) (by simp [d2]) (by simp [d2]) c1
      · have k2 : (x.test == 2) = false := beq_eq_false_iff_ne.2 d2
        by_cases d3 : x.test = 3
        · simp [k2, d3]
          exact tail _ (by simp) (by simp [d3]) (by simp [d3]) c1
        · have k3 : (x.test == 3) = false := beq_eq_false_iff_ne.2 d3
          by_cases d4 : x.test = 4
          · simp [k2, k3, d4]
            exact tail _ (by simp) (by simp [d4]) (by simp [d4]) c1
          · have k4 : (x.test == 4) = false := beq_eq_false_iff_ne.2 d4
            by_cases d5 : x.test = 5
            · simp [k2, k3, k4, d5]
              exact tail _ (by simp) (by simp [d5]) (by simp [d5]) c1
            · have k5 : (x.test == 5) = false := beq_eq_false_iff_ne.2 d5
              by_cases d6 : x.test = 6
              · simp [k2, k3, k4, k5, d6]
                exact tail _ (by simp) (by simp [d6]) (by simp [d6]) c1
              · have k6 : (x.test == 6) = false := beq_eq_false_iff_ne.2 d6
                have k7 : (x.test == 7) = decide (2 ≤ x.test ∧ x.test ≤ 7) := by
                  by_cases q : x.test = 7
                  · rw [q]; decide
                  · rw [beq_eq_false_iff_ne.2 q]
                    have : ¬ (2 ≤ x.test ∧ x.test ≤ 7) := by omega
                    simp [this]
                simp [k2, k3, k4, k5, k6]
                exact tail _ (by simp) (by simp) (by simp [k7]) c1

theorem filter_Right (hX : OnlyKnown X) {h : Heap} {v : AVal} {l : List Prd} (o : SlN prR h v l) (hl : l.length ≤ 1000) (sz : ∀ p, p ∈ l → SzN p) : Tells (fun q => acallX Try.prog X q F_filter_Right [v] h) fun r h' => r = .bool (rightFl l) ∧ Ext [] h h' := by
  refine R_filter_Right _ (hX _ _ rfl) ?_
  refine Tells.prot fun Q' hQ => ?_
  unfold S_filter_Right
  by_cases h3 : l.length ≤ 3
  · have h3' : ¬ (3 : Int) < l.length := by omega
    have h3'' : ¬ 3 < l.length := by omega
    simp [o.len, h3', h3'', J_filter_Right_0]
    refine Tells.bind (Tells.loop (fun k t g => ∃ i : Nat, t 0 = v ∧ t 8 = v ∧ t 9 = I l.length ∧ t 10 = I i ∧ i + k = l.length ∧ rightFs none l = rightFs (prevP l i) (l.drop i) ∧ Ext [] h g)
      (Q := fun r g => ((r.1 = .exit 0 ∧ rightFs none l = true) ∨ (r.1 = .ret ∧ r.2 2 = .bool false ∧ rightFs none l = false)) ∧ Ext [] h g) ?_ l.length _ _ ⟨0, by simp, by simp, by simp, by simp, by omega, by simp [prevP], .refl⟩) ?_
    · rintro k t g ⟨i, t0, t8, t9, t10, hi, hs, xg⟩
      refine Tells.prot fun Q2 hQ2 => ?_
      unfold L_filter_Right_2
      have og := o.ext xg
      simp [t9, t10]
      refine Tells.cb (fun hc => ?_) (fun hc => ?_)
      · simp at hc
        obtain ⟨x, hx⟩ : ∃ x, l[i]? = some x := ⟨_, List.getElem?_eq_getElem hc⟩
        obtain ⟨b1, p1, B1, c1, q1, q2, sv, rfl, os, _⟩ := og.at (n := 13) rfl (i := (i : Int)) (by omega) (by simpa using hx)
        have w : IntKind.i64.wrap ((i : Int) + 1) = i + 1 := wrap_id (by omega) (by omega)
        have q4 := q2.lda (n := 13) rfl
        have e := rightFs_drop hx
        simp [J_filter_Right_3, t8, t10, q1, q4]
        refine Tells.newSt (ds := prC x sv) (by rfl) (by rfl) (by rfl) (by simp [prC, vlC, os.one]) fun g1 bp op x1 l1 => ?_
        have rep1 : prR.rep g1 (prC x sv) x := ⟨sv, rfl, os.ext x1, fun _ _ => trivial⟩
        have ld : ldn 13 g1 (.ptr bp 0) = some (.agg (prC x sv)) := by simp [op.1, prC, vlC]
        simp [ld]
        refine Tells.cbE (pred_Right hX rep1 (sz x (List.mem_of_getElem? hx))) ?_
        rintro _ g2 ⟨rfl, x2⟩
        have op2 := op.e x2
        have X2 := (xg.trans x1).trans x2
        cases e1 : rightP x with
        | false =>
          try simp
          exact Tells.ok (hQ2 _ _ (.inr ⟨by simp, .inr ⟨rfl, by simp, by rw [hs, e, e1]; rfl⟩, X2⟩))
        | true =>
          by_cases h0 : i = 0
          · subst h0
            simp [t10, J_filter_Right_4]
            exact Tells.ok (hQ2 _ _ (.inl ⟨rfl, k - 1, by omega, 1, by simp [t0], by simp [t8], by simp [t9], by simp; rfl, by omega, by rw [hs, e, e1]; simp [prevP], X2⟩))
          · obtain ⟨y, hy⟩ : ∃ y, l[i - 1]? = some y := ⟨_, List.getElem?_eq_getElem (by omega)⟩
            have h0' : (0 : Int) < i := by omega
            have h0'' : 0 < i := by omega
            have w1 : IntKind.i64.wrap ((i : Int) - 1) = ((i - 1 : Nat) : Int) := by rw [wrap_id (by omega) (by omega)]; omega
            obtain ⟨b2, p2, B2, c2, r1, r2, sw, rfl, ow, _⟩ := (og.ext x1 |>.ext x2).at (n := 13) rfl (i := ((i - 1 : Nat) : Int)) (by omega) (by simpa using hy)
            have r4 := r2.cell0 (by simp [prC])
            simp [prC] at r4
            have ep : prevP l i = some y.name := by simp [prevP, h0, hy]
            rw [ep] at e
            simp only at e
            cases e2 : (Op.bytesLess y.name.toList x.name.toList || y.name.toList == x.name.toList) with
            | true =>
              have fin : ∀ t2 : T, t2 0 = v → t2 8 = v → t2 9 = I l.length → t2 10 = I ((i : Int) + 1) → Q2 (.normal, t2) g2 := fun t2 a0 a8 a9 a10 => hQ2 _ _ (.inl ⟨rfl, k - 1, by omega, i + 1, a0, a8, a9, a10, by omega, by rw [hs, ep, e, e1, e2]; rfl, X2⟩)
              rcases Bool.or_eq_true _ _ ▸ e2 with q | q
              · simp [t10, t0, h0', h0'', w1, r1, r2.get, r4, op2.1, prC, vlC, q, J_filter_Right_4, w]
                exact Tells.ok (fin _ (by simp [t0]) (by simp [t8]) (by simp [t9]) (by simp))
              · simp [t10, t0, h0', h0'', w1, r1, r2.get, r4, op2.1, prC, vlC, q, J_filter_Right_4, w]
                exact Tells.ok (fin _ (by simp [t0]) (by simp [t8]) (by simp [t9]) (by simp))
            | false =>
              have e3 := e2
              simp only [Bool.or_eq_false_iff] at e3
              simp [t10, t0, h0', h0'', w1, r1, r2.get, r4, op2.1, prC, vlC, e3.1, e3.2]
              exact Tells.ok (hQ2 _ _ (.inr ⟨by simp, .inr ⟨rfl, by simp, by rw [hs, ep, e, e1, e2]; rfl⟩, X2⟩))
      · simp at hc
        refine Tells.ok (hQ2 _ _ (.inr ⟨by simp, .inl ⟨rfl, ?_⟩, xg⟩))
        rw [hs, List.drop_eq_nil_of_le (by omega)]
        rfl
    · rintro ⟨ex, t⟩ g ⟨⟨rfl, he⟩ | ⟨rfl, t2, he⟩, xg⟩
      · simp [J_filter_Right_1]
        exact Tells.ok (hQ _ _ ⟨by simp [rightFl, he, h3], xg⟩)
      · have t2 : t 2 = .bool false := t2
        simp [t2]
        exact Tells.ok (hQ _ _ ⟨by simp [rightFl, he], xg⟩)
  · have h3' : (3 : Int) < l.length := by omega
    have h3'' : 3 < l.length := by omega
    simp [o.len, h3', h3'']
    exact Tells.ok (hQ _ _ ⟨by simp [rightFl, h3], .refl⟩)

theorem ref_RightFilter (hX : OnlyKnown X) {h : Heap} {v : AVal} {l : List Prd} (o : SlN prR h v l) (hl : l.length ≤ 1000) (sz : ∀ p, p ∈ l → SzN p) : Tells (fun q => acallX Try.prog X q F_precentorref1_RightFilter [v] h) fun r h' => r = .bool (rightFl l) ∧ Ext [] h h' := by
  refine R_precentorref1_RightFilter _ (hX _ _ rfl) ?_
  refine Tells.prot fun Q' hQ => ?_
  unfold S_precentorref1_RightFilter
  try simp
  refine Tells.bind (Tells.loop (fun k t g => ∃ i : Nat, t 0 = v ∧ t 3 = I i ∧ i + k = l.length ∧ rightFs none l = rightFs (prevP l i) (l.drop i) ∧ Ext [] h g)
    (Q := fun r g => ((r.1 = .exit 0 ∧ r.2 0 = v ∧ rightFs none l = true) ∨ (r.1 = .ret ∧ r.2 2 = .bool false ∧ rightFs none l = false)) ∧ Ext [] h g) ?_ l.length _ _ ⟨0, by simp, by simp, by omega, by simp [prevP], .refl⟩) ?_
  · rintro k t g ⟨i, t0, t3, hi, hs, xg⟩
    refine Tells.prot fun Q2 hQ2 => ?_
    unfold L_precentorref1_RightFilter_1
    have og := o.ext xg
    simp [t3, t0, og.len]
    refine Tells.cb (fun hc => ?_) (fun hc => ?_)
    · simp at hc
      obtain ⟨x, hx⟩ : ∃ x, l[i]? = some x := ⟨_, List.getElem?_eq_getElem hc⟩
      obtain ⟨b1, p1, B1, c1, q1, q2, sv, rfl, os, _⟩ := og.at (n := 13) rfl (i := (i : Int)) (by omega) (by simpa using hx)
      have w : IntKind.i64.wrap ((i : Int) + 1) = i + 1 := wrap_id (by omega) (by omega)
      have q4 := q2.lda (n := 13) rfl
      have e := rightFs_drop hx
      have rep1 : prR.rep g (prC x sv) x := ⟨sv, rfl, os, fun _ _ => trivial⟩
      simp [J_precentorref1_RightFilter_2, t0, t3, q1, q4]
      refine Tells.cbE (ref_RightPred hX rep1 (sz x (List.mem_of_getElem? hx))) ?_
      rintro _ g2 ⟨rfl, x2⟩
      have X2 := xg.trans x2
      cases e1 : rightP x with
      | false =>
        try simp
        exact Tells.ok (hQ2 _ _ (.inr ⟨by simp, .inr ⟨rfl, by simp, by rw [hs, e, e1]; rfl⟩, X2⟩))
      | true =>
        by_cases h0 : i = 0
        · subst h0
          simp [t3, J_precentorref1_RightFilter_3]
          exact Tells.ok (hQ2 _ _ (.inl ⟨rfl, k - 1, by omega, 1, by simp [t0], by simp; rfl, by omega, by rw [hs, e, e1]; simp [prevP], X2⟩))
        · obtain ⟨y, hy⟩ : ∃ y, l[i - 1]? = some y := ⟨_, List.getElem?_eq_getElem (by omega)⟩
          have h0' : (0 : Int) < i := by omega
          have h0'' : 0 < i := by omega
          have w1 : IntKind.i64.wrap ((i : Int) - 1) = ((i - 1 : Nat) : Int) := by rw [wrap_id (by omega) (by omega)]; omega
          obtain ⟨b2, p2, B2, c2, r1, r2, sw, rfl, ow, _⟩ := (og.ext x2).at (n := 13) rfl (i := ((i - 1 : Nat) : Int)) (by omega) (by simpa using hy)
          obtain ⟨b3, p3, B3, c3, s1, s2, sw', rfl, ow', _⟩ := (og.ext x2).at (n := 13) rfl (i := (i : Int)) (by omega) (by simpa using hx)
          cases q1.symm.trans s1
          have r4 := r2.cell0 (by simp [prC])
          have s4 := s2.cell0 (by simp [prC])
          simp [prC] at r4 s4
          have ep : prevP l i = some y.name := by simp [prevP, h0, hy]
          rw [ep] at e
          simp only at e
          cases e2 : (Op.bytesLess y.name.toList x.name.toList || y.name.toList == x.name.toList) with
          | true =>
            have fin : ∀ t2 : T, t2 0 = v → t2 3 = I ((i : Int) + 1) → Q2 (.normal, t2) g2 := fun t2 a0 a10 => hQ2 _ _ (.inl ⟨rfl, k - 1, by omega, i + 1, a0, a10, by omega, by rw [hs, ep, e, e1, e2]; rfl, X2⟩)
            rcases Bool.or_eq_true _ _ ▸ e2 with q | q
            · simp [t3, t0, h0', h0'', w1, r1, r2.get, r4, q1, s2.get, s4, q, J_precentorref1_RightFilter_3, w]
              exact Tells.ok (fin _ (by simp [t0]) (by simp))
            · simp [t3, t0, h0', h0'', w1, r1, r2.get, r4, q1, s2.get, s4, q, J_precentorref1_RightFilter_3, w]
              exact Tells.ok (fin _ (by simp [t0]) (by simp))
          | false =>
            have e3 := e2
            simp only [Bool.or_eq_false_iff] at e3
            simp [t3, t0, h0', h0'', w1, r1, r2.get, r4, q1, s2.get, s4, e3.1, e3.2]
            exact Tells.ok (hQ2 _ _ (.inr ⟨by simp, .inr ⟨rfl, by simp, by rw [hs, ep, e, e1, e2]; rfl⟩, X2⟩))
    · simp at hc
      refine Tells.ok (hQ2 _ _ (.inr ⟨by simp, .inl ⟨rfl, by simp [t0], ?_⟩, xg⟩))
      rw [hs, List.drop_eq_nil_of_le (by omega)]
      rfl
  · rintro ⟨ex, t⟩ g ⟨⟨rfl, t0, he⟩ | ⟨rfl, t2, he⟩, xg⟩
    · have t0 : t 0 = v := t0
      have l3 : decide ((l.length : Int) ≤ 3) = decide (l.length ≤ 3) := by
        by_cases q : l.length ≤ 3
        · have : (l.length : Int) ≤ 3 := by omega
          simp [q, this]
        · have : ¬ (l.length : Int) ≤ 3 := by omega
          simp [q, this]
      simp [J_precentorref1_RightFilter_0, t0, (o.ext xg).len]
      exact Tells.ok (hQ _ _ ⟨by rw [rightFl, he, Bool.and_true]; first | rw [l3] | (congr 1; exact l3) | simpa using l3, xg⟩)
    · have t2 : t 2 = .bool false := t2
      simp [t2]
      exact Tells.ok (hQ _ _ ⟨by simp [rightFl, he], xg⟩)

end
end Go.Proofs.Ytbolfamaffbnnaa
