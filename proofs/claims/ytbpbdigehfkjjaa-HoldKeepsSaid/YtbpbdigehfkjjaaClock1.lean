/-
  What clock's Take, Own and New tell.
-/
import Derived.Test.YtbpbdigehfkjjaaClock0
import Derived.Test.YtbpbdigehfkjjaaB3
set_option linter.unusedVariables false
set_option linter.unusedSimpArgs false
namespace Go.Proofs.Ytbpbdigehfkjjaa
open Go.Ab

section
variable {X : XTab}

theorem clock_Take (hX : OnlyKnown X) {h : Heap} {v u : AVal} {s : Slots} {l : List (Int × Int)} (o : Sl pairR h v s) (hl : s.length < 2 ^ 30) (ou : Sl pairR h u l) (hu : l.length < 2 ^ 30) {K : Int} (hK : 0 ≤ K ∧ K < 2 ^ 61) (hs : Small s K) :
    Tells (fun q => acallX Try.prog X q F_clock_Clock_Take [.agg [v], u] h) fun a h' => ∃ v', a = .agg [v'] ∧ Sl pairR h' v' (take s l) ∧ Ext [] h h' := by
  refine R_clock_Clock_Take _ _ (hX _ _ rfl) ?_
  refine Tells.prot fun Q' hQ => ?_
  unfold S_clock_Clock_Take
  simp
  refine Tells.box rfl rfl fun h1 bc oc x1 l1 => ?_
  try simp
  refine Tells.new fun h2 bv ov x2 l2 => ?_
  have oc2 := oc.e x2
  have x12 := x1.trans x2
  have o2 := o.ext x12
  have ou2 := ou.ext x12
  simp [oc2.1]
  refine Tells.bind (clock_Due hX o2 (by omega) ou2 (by omega)) ?_
  rintro _ h3 ⟨rfl, x3⟩
  have oc3 := oc2.e x3
  have ov3 := ov.e x3
  have x13 := x12.trans x3
  have hcv : bc ≠ bv := by have := oc.lt; omega
  by_cases hd : due s l = true
  · simp [hd, J_clock_Clock_Take_0, oc3.1]
    refine Tells.copy (r := pairR) (o2.ext x3) (by rfl) (by omega) (by decide) fun s' h4 g4 x4 w4 => ?_
    have oc4 := oc3.e x4
    have ov4 := ov3.e x4
    simp [bldR, fillR, splice, g4.1.known, g4.1.cells]
    refine Tells.newSt (by rfl) (by rfl) (by rfl) (by simp [g4.1.one]) fun h5 bo oo x5 l5 => ?_
    have oc5 := oc4.e x5
    have ov5 := ov4.e x5
    have x45 := x4.trans x5
    have x05 := x13.trans x45
    simp [ou.len]
    refine Tells.bind (Tells.loop (fun n t g => ∃ i : Nat, t 2 = .ptr bc 0 ∧ t 4 = .ptr bv 0 ∧ t 5 = .ptr bo 0 ∧ t 18 = u ∧ t 19 = I l.length ∧ t 20 = I i ∧ i + n = l.length ∧ Ext [] h3 g ∧ Ob g bc [v] ∧ Ob g bv [.nils] ∧ Ob g bo [s'] ∧ Wr h3 g s' ∧ Sl pairR g s' (bumps s (l.take i)))
      (Q := fun p g => p.1 = .exit 0 ∧ p.2 4 = .ptr bv 0 ∧ p.2 5 = .ptr bo 0 ∧ Ext [] h3 g ∧ Ob g bv [.nils] ∧ Ob g bo [s'] ∧ Sl pairR g s' (bumps s l)) ?_ l.length _ _ ?_) ?_
    · rintro n t g ⟨i, t2, t4, t5, t18, t19, t20, hi, x, ac, av, ao, wr, sl⟩
      refine Tells.prot fun Q2 hQ2 => ?_
      unfold L_clock_Clock_Take_2
      simp [t19, t20]
      refine Tells.cb (fun hc => ?_) (fun hc => ?_)
      · simp at hc
        obtain ⟨⟨a, n'⟩, hdi⟩ : ∃ d, l[i]? = some d := ⟨_, List.getElem?_eq_getElem hc⟩
        obtain ⟨b, pp, B, q1, q2, q3, q4, q5⟩ := pair_at ((ou2.ext x3).ext x) hdi
        have w : IntKind.i64.wrap ((i : Int) + 1) = i + 1 := wrap_id (by omega) (by omega)
        simp [J_clock_Clock_Take_3, t18, t20, q1, q2, q3]
        refine Tells.newSt (by rfl) (by rfl) (by rfl) (by rfl) fun h6 bs os x6 l6 => ?_
        have ac6 := ac.e x6
        simp [t2, ac6.1, os.1]
        refine Tells.bind (clock_find hX (((o2.ext x3).ext x).ext x6) (by omega) a) ?_
        rintro _ h7 ⟨rfl, x7⟩
        have x67 := x6.trans x7
        have ao7 := ao.e x67
        have sl7 := sl.ext x67
        have wr7 := wr.ext x67
        have x07 := x.trans x67
        by_cases hh : has s a = true
        · have hh' : has (bumps s (l.take i)) a = true := by rw [has_places, bumps_places, ← has_places]; exact hh
          obtain ⟨i1, i2⟩ := has_idx hh'
          have hix : idx (bumps s (l.take i)) a = idx s a := idx_places (bumps_places s _)
          have hf : fnd s a = idx (bumps s (l.take i)) a := by rw [hix]; simp [fnd, hh]
          have sm := (hs.bumps hK.1 (l.take i)).nxt (by omega) a
          have lt : (l.take i).length ≤ 2 ^ 30 := by simp; omega
          have wn : IntKind.i64.wrap (nxt (bumps s (l.take i)) a + 1) = nxt (bumps s (l.take i)) a + 1 := wrap_id (by omega) (by omega)
          obtain ⟨b', p', B', c', k1, k2, k3, k4⟩ := sl7.poke (n := 2) rfl (fun q => q) wr7 x07 i2
          have k3 : c' = [I a, I (nxt (bumps s (l.take i)) a)] := k3
          subst k3
          have k5 := k2.cell (k := 1) (by simp)
          obtain ⟨h8, e8, x8, w8, s8, _, _, ob8⟩ := k4 1 (I (nxt (bumps s (l.take i)) a + 1)) (a, nxt (bumps s (l.take i)) a + 1) (by omega) rfl rfl rfl
          simp [hf, t5, ao7.1, k1, k2.get, k5, wn, e8, J_clock_Clock_Take_4, t20, w]
          refine Tells.ok (hQ2 _ _ (.inl ⟨rfl, n - 1, by omega, i + 1, by simp [t2], by simp [t4], by simp [t5], by simp [t18], by simp [t19], by simp, by omega, x8, ob8 _ _ (ac6.e x7), ob8 _ _ ((av.e x6).e x7), ob8 _ _ ao7, w8, ?_⟩))
          rw [bumps_take_succ hdi, bump_set hh']
          exact s8
        · have hh : has s a = false := by simpa using hh
          have hf : fnd s a = -1 := by simp [fnd, hh]
          have hh' : has (bumps s (l.take i)) a = false := by rw [has_places, bumps_places, ← has_places]; exact hh
          simp [hf, J_clock_Clock_Take_4, t20, w]
          refine Tells.ok (hQ2 _ _ (.inl ⟨rfl, n - 1, by omega, i + 1, by simp [t2], by simp [t4], by simp [t5], by simp [t18], by simp [t19], by simp, by omega, x07, ac6.e x7, (av.e x6).e x7, ao7, wr7, ?_⟩))
          rw [bumps_take_succ hdi, not_has_bump hh']
          exact sl7
      · simp at hc
        refine Tells.ok (hQ2 _ _ (.inr ⟨by simp, rfl, by simp [t4], by simp [t5], x, av, ao, ?_⟩))
        rw [List.take_of_length_le (by omega)] at sl
        exact sl
    · exact ⟨0, by simp, by simp, by simp, by simp, by simp, by simp, by omega, x45, oc5, ov5, oo, w4.ext x5, by simpa [bumps] using g4.1.ext x5⟩
    · rintro ⟨ex, t⟩ g ⟨rfl, t4, t5, x, av, ao, sl⟩
      simp only at t4 t5
      simp [J_clock_Clock_Take_1, t5, ao.1, t4]
      refine Tells.stN av (by rfl) (by rfl) (by simp [sl.one]) (by rfl) fun h9 o9 x9 => ?_
      simp [t4, C_clock_Clock_Take_0, o9.1]
      refine Tells.ok (hQ _ _ ⟨s', rfl, ?_, (x13.trans x).then x9 (by simp; have := x1.next; omega)⟩)
      unfold take
      rw [if_pos hd]
      exact sl.ext x9
  · have hd : due s l = false := by simpa using hd
    simp [hd, oc3.1]
    refine Tells.stN ov3 (by rfl) (by rfl) (by simp [o.one]) (by rfl) fun h9 o9 x9 => ?_
    simp [C_clock_Clock_Take_0, o9.1]
    refine Tells.ok (hQ _ _ ⟨v, rfl, ?_, x13.then x9 (by simp; have := x1.next; omega)⟩)
    unfold take
    rw [if_neg (by rw [hd]; simp)]
    exact (o2.ext x3).ext x9

theorem clock_Own (hX : OnlyKnown X) {h : Heap} {v : AVal} {s : Slots} (o : Sl pairR h v s) (hl : s.length < 2 ^ 30) :
    Tells (fun q => acallX Try.prog X q F_clock_Clock_Own [.agg [v]] h) fun a h' => Gl intR h h' a (s.map (·.1)) ∧ Wr h h' a ∧ Ext [] h h' := by
  refine R_clock_Clock_Own _ (hX _ _ rfl) ?_
  refine Tells.prot fun Q' hQ => ?_
  unfold S_clock_Clock_Own
  simp
  refine Tells.box rfl rfl fun h1 b1 o1 x1 l1 => ?_
  simp [o1.1, o.len]
  refine Tells.bind (Tells.loop (fun n t g => ∃ i : Nat, t 7 = v ∧ t 8 = I s.length ∧ t 9 = I i ∧ i + n = s.length ∧ Gl intR h g (t 3) ((s.take i).map (·.1)) ∧ Wr h g (t 3) ∧ Ext [] h g)
    (Q := fun p g => p.1 = .exit 0 ∧ Gl intR h g (p.2 3) (s.map (·.1)) ∧ Wr h g (p.2 3) ∧ Ext [] h g) ?_ s.length _ _ ?_) ?_
  · rintro n t g ⟨i, t7, t8, t9, hi, go, wr, x⟩
    refine Tells.prot fun Q2 hQ2 => ?_
    unfold L_clock_Clock_Own_1
    simp [t8, t9]
    refine Tells.cb (fun hc => ?_) (fun hc => ?_)
    · simp at hc
      obtain ⟨⟨a, n'⟩, hdi⟩ : ∃ d, s[i]? = some d := ⟨_, List.getElem?_eq_getElem hc⟩
      obtain ⟨b, pp, B, q1, q2, q3, q4, q5⟩ := pair_at (o.ext x) hdi
      have w : IntKind.i64.wrap ((i : Int) + 1) = i + 1 := wrap_id (by omega) (by omega)
      simp [J_clock_Clock_Own_2, t7, t9, q1, q2, q3]
      refine Tells.newSt (by rfl) (by rfl) (by rfl) (by rfl) fun h2 b2 o2 x2 l2 => ?_
      simp [o2.1]
      refine Tells.app1W (go.e x2) (wr.ext x2) (by rfl) (by rfl) (show intR.rep h2 [I a] a from rfl) (by rfl) (by rfl) (by simp; omega) (by decide) (Nat.le_trans x.next x2.next) fun s3 h3 g3 w3 x3 y3 z3 => ?_
      simp [J_clock_Clock_Own_3, t9, w]
      have : s.take (i + 1) = s.take i ++ [(a, n')] := by rw [List.take_add_one, hdi]; rfl
      exact Tells.ok (hQ2 _ _ (.inl ⟨rfl, n - 1, by omega, i + 1, by simp [t7], by simp [t8], by simp, by omega, by rw [this]; simpa using g3, by simpa using w3, y3 _ (x.trans x2)⟩))
    · simp at hc
      rw [List.take_of_length_le (by omega)] at go
      exact Tells.ok (hQ2 _ _ (.inr ⟨by simp, rfl, by simpa using go, by simpa using wr, x⟩))
  · exact ⟨0, by simp, by simp, by simp, by omega, by simpa using Gl.nil, fun b hb => by simp [AVal.blks] at hb, x1⟩
  · rintro ⟨ex, t⟩ g ⟨rfl, go, wr, x⟩
    simp [J_clock_Clock_Own_0]
    exact Tells.ok (hQ _ _ ⟨go, wr, x⟩)

/-- How many slots lie below a place, from the first one on. -/
def below : Slots → Int → Nat
  | [], _ => 0
  | (q, _) :: r, p => if q < p then below r p + 1 else 0
def ins (s : Slots) (p : Int) : Slots := if p < 0 ∨ (s[below s p]?).map (·.1) = some p then s else s.take (below s p) ++ [(p, 1)] ++ s.drop (below s p)
def newS (ps : List Int) : Slots := ps.foldl ins []
theorem below_le : ∀ (s : Slots) (p : Int), below s p ≤ s.length
  | [], _ => Nat.le_refl _
  | (q, _) :: r, p => by
    simp only [below]
    split
    · have := below_le r p; simp; omega
    · simp
theorem below_drop {s : Slots} {i : Nat} {q n p : Int} (h : s[i]? = some (q, n)) : below (s.drop i) p = if q < p then below (s.drop (i + 1)) p + 1 else 0 := by
  have hlt := (List.getElem?_eq_some_iff.1 h).1
  rw [List.drop_eq_getElem_cons hlt, (List.getElem?_eq_some_iff.1 h).2]
  rfl
theorem ins_length (s : Slots) (p : Int) : (ins s p).length ≤ s.length + 1 := by
  unfold ins
  have := below_le s p
  split
  · omega
  · simp; omega
theorem newS_succ {ps : List Int} {i : Nat} {p : Int} (h : ps[i]? = some p) : newS (ps.take (i + 1)) = ins (newS (ps.take i)) p := by
  unfold newS
  rw [List.take_add_one, h]
  simp
theorem newS_length : ∀ (ps : List Int), (newS ps).length ≤ ps.length := by
  intro ps
  have gen : ∀ (ps : List Int) (s : Slots), (ps.foldl ins s).length ≤ s.length + ps.length := by
    intro ps
    induction ps with
    | nil => intro s; simp
    | cons p r ih => intro s; rw [List.foldl_cons]; have := ih (ins s p); have := ins_length s p; simp; omega
  have := gen ps []
  unfold newS
  simpa using this

theorem Tells.appNWE {β : Type} {Q : β → Heap → Prop} {h : Heap} {call : Nat → FuncId → List AVal → Heap → Res AVal} {α : Type} {r : Rp α} {h0 : Heap} {xs ys : List α} {s v : AVal} {n by_ : Nat} {k : Nat → AVal → Heap → Res β} (g : Gl r h0 h s xs) (wr : Wr h0 h s) (o : Sl r h v ys) (hn : r.n = n) (hl : xs.length + ys.length ≤ 2 ^ 34)
    (hby : by_ ≤ 2 ^ 12) (hle : h0.next ≤ h.next) (q : ∀ s' h', Gl r h0 h' s' (xs ++ ys) → Wr h0 h' s' → Ext s.blks h h' → (∀ S, Ext S h0 h → Ext S h0 h') → (∀ b, b ∈ s'.blks → b ∈ s.blks ∨ h.next ≤ b) → Tells (fun m => k m s' h') Q) :
    Tells (fun m => arbE (appR n by_ h s v) (call m) (k m)) Q := by
  obtain ⟨s', h', q1, q2, q3, q4, q5⟩ := g.appN (by_ := by_) o hn hl hby hle
  simp only [q1, arbE_val]
  exact q s' h' q2 (appR_wr q1 wr hle) q3 q4 fun b hb => (q5 b hb).imp_right fun z => by omega

theorem newInner (hX : OnlyKnown X) {h : Heap} {t : T} {bc : Nat} {v : AVal} {s : Slots} {p : Int} (t3 : t 3 = .ptr bc 0) (t5 : t 5 = I p) (t6 : t 6 = I 0) (ob : Ob h bc [v]) (o : Sl pairR h v s) (hl : s.length < 2 ^ 30) :
    Tells (fun m => loopN (L_clock_New_6 Try.prog (acallX Try.prog X m) m) m t h) fun pp g => pp.1 = .exit 2 ∧ g = h ∧ pp.2 6 = I (below s p) ∧ ∀ j, j < 11 → j ≠ 6 → pp.2 j = t j := by
  refine Tells.loop (fun n t' g => ∃ i : Nat, t' 6 = I i ∧ (∀ j, j < 11 → j ≠ 6 → t' j = t j) ∧ i + n = s.length ∧ g = h ∧ below s p = i + below (s.drop i) p) ?_ s.length _ _ ?_
  · rintro n t' g ⟨i, e6, ej, hi, rfl, hb⟩
    refine Tells.prot fun Q2 hQ2 => ?_
    have e3 := ej 3 (by omega) (by omega)
    have e5 := ej 5 (by omega) (by omega)
    unfold L_clock_New_6
    simp [e6, e3, t3, ob.1, o.len]
    by_cases hc : i < s.length
    · obtain ⟨⟨q, n'⟩, hdi⟩ : ∃ d, s[i]? = some d := ⟨_, List.getElem?_eq_getElem hc⟩
      obtain ⟨b, pp, B, q1, q2, q3, q4, q5⟩ := pair_at o hdi
      have w : IntKind.i64.wrap ((i : Int) + 1) = i + 1 := wrap_id (by omega) (by omega)
      rw [below_drop hdi] at hb
      simp [hc, e3, t3, ob.1, q1, q2, q4, e5, t5]
      by_cases hq : q < p
      · rw [if_pos hq] at hb
        simp [hq, J_clock_New_7, e6, w]
        refine Tells.ok (hQ2 _ _ (.inl ⟨rfl, n - 1, by omega, i + 1, by simp, fun j h1 h2 => ?_, by omega, rfl, by omega⟩))
        simp only [upd]
        repeat (rw [if_neg (by omega)])
        exact ej j h1 h2
      · rw [if_neg hq] at hb
        simp [hq]
        refine Tells.ok (hQ2 _ _ (.inr ⟨by simp, rfl, rfl, by simp [e6, hb], fun j h1 h2 => ?_⟩))
        simp only [upd]
        repeat (rw [if_neg (by omega)])
        exact ej j h1 h2
    · simp [hc]
      refine Tells.ok (hQ2 _ _ (.inr ⟨by simp, rfl, rfl, ?_, fun j h1 h2 => ?_⟩))
      · rw [List.drop_eq_nil_of_le (by omega)] at hb
        simp [below] at hb
        simp [e6, hb]
      · simp only [upd]
        repeat (rw [if_neg (by omega)])
        exact ej j h1 h2
  · exact ⟨0, by simpa using t6, fun _ _ _ => rfl, by omega, rfl, by simp⟩

theorem clock_NewW (hX : OnlyKnown X) {h : Heap} {u : AVal} {ps : List Int} (ou : Sl intR h u ps) (hl : ps.length < 2 ^ 29) :
    Tells (fun q => acallX Try.prog X q F_clock_New [u] h) fun a h' => ∃ v', a = .agg [v'] ∧ Sl pairR h' v' (newS ps) ∧ Wr h h' v' ∧ Ext [] h h' := by
  refine R_clock_New _ (hX _ _ rfl) ?_
  refine Tells.prot fun Q' hQ => ?_
  unfold S_clock_New
  simp
  refine Tells.new fun h1 bv ov x1 l1 => ?_
  try simp
  refine Tells.new fun h2 bc oc x2 l2 => ?_
  have ov2 := ov.e x2
  have x12 := x1.trans x2
  have hvc : bv ≠ bc := by have := ov.lt; omega
  simp [ou.len]
  refine Tells.bind (Tells.loop (fun n t g => ∃ (i : Nat) (v : AVal), t 2 = .ptr bv 0 ∧ t 3 = .ptr bc 0 ∧ t 8 = u ∧ t 9 = I ps.length ∧ t 10 = I i ∧ i + n = ps.length ∧ Ob g bv [.nils] ∧ Ob g bc [v] ∧ Sl pairR g v (newS (ps.take i)) ∧ Wr h g v ∧ Ext [] h g)
    (Q := fun p g => p.1 = .exit 0 ∧ p.2 2 = .ptr bv 0 ∧ p.2 3 = .ptr bc 0 ∧ Ob g bv [.nils] ∧ ∃ v, Ob g bc [v] ∧ Sl pairR g v (newS ps) ∧ Wr h g v ∧ Ext [] h g) ?_ ps.length _ _ ?_) ?_
  · rintro n t g ⟨i, v, t2, t3, t8, t9, t10, hi, av, ac, sl, wv, x⟩
    refine Tells.prot fun Q2 hQ2 => ?_
    unfold L_clock_New_1
    simp [t9, t10]
    refine Tells.cb (fun hc => ?_) (fun hc => ?_)
    · simp at hc
      obtain ⟨p, hdi⟩ : ∃ d, ps[i]? = some d := ⟨_, List.getElem?_eq_getElem hc⟩
      obtain ⟨b, pp, B, q1, q2, q3⟩ := (ou.ext x).atI hdi
      have w : IntKind.i64.wrap ((i : Int) + 1) = i + 1 := wrap_id (by omega) (by omega)
      have ln := newS_length (ps.take i)
      have lt : (ps.take i).length ≤ i := by simp; omega
      have hsl : (newS (ps.take i)).length < 2 ^ 30 := by omega
      have hS := newS_succ hdi
      generalize newS (ps.take i) = s at sl hsl hS
      simp [J_clock_New_2, t8, t10, q1, q2, q3]
      refine Tells.bind (newInner (p := p) hX (by simp [t3]) (by simp) (by simp) ac sl hsl) ?_
      rintro ⟨ex, t'⟩ g' ⟨rfl, rfl, e6, ej⟩
      have e2 := ej 2 (by omega) (by omega)
      have e3 := ej 3 (by omega) (by omega)
      have e5 := ej 5 (by omega) (by omega)
      have e8 := ej 8 (by omega) (by omega)
      have e9 := ej 9 (by omega) (by omega)
      have e10 := ej 10 (by omega) (by omega)
      simp [t2, t3, t8, t9, t10] at e2 e3 e5 e6 e8 e9 e10
      -- nothing comes
      have stay : ∀ t2 : T, t2 2 = .ptr bv 0 → t2 3 = .ptr bc 0 → t2 8 = u → t2 9 = I ps.length → t2 10 = I i → ins s p = s → Tells (fun m => J_clock_New_3 Try.prog (acallX Try.prog X m) m okK t2 g') Q2 := by
        intro t2 k2 k3 k8 k9 k10 hins
        simp [J_clock_New_3, k10, w]
        exact Tells.ok (hQ2 _ _ (.inl ⟨rfl, n - 1, by omega, i + 1, v, by simp [k2], by simp [k3], by simp [k8], by simp [k9], by simp, by omega, av, ac, by rw [hS, hins]; exact sl, wv, x⟩))
      have come : ∀ t2 : T, t2 2 = .ptr bv 0 → t2 3 = .ptr bc 0 → t2 5 = I p → t2 6 = I (below s p) → t2 8 = u → t2 9 = I ps.length → t2 10 = I i → ins s p = s.take (below s p) ++ [(p, 1)] ++ s.drop (below s p) →
          Tells (fun m => J_clock_New_5 Try.prog (acallX Try.prog X m) m (blkK 1 (sqK (J_clock_New_3 Try.prog (acallX Try.prog X m) m okK) okK)) t2 g') Q2 := by
        intro t2 k2 k3 k5 k6 k8 k9 k10 hins
        have hb := below_le s p
        obtain ⟨v1, f1, s1, b1⟩ := sl.takeR (n := 2) rfl (hi := below s p) hb
        unfold J_clock_New_5
        simp [k3, ac.1, k6, f1]
        refine Tells.copy (r := pairR) s1 (by rfl) (by simp; omega) (by decide) fun v2 h3 g3 x3 w3 => ?_
        have ac3 := ac.e x3
        simp [k5, bldR, fillR, splice]
        refine Tells.litV (r := pairR) (xs := [(p, 1)]) (css := [[I p, I 1]]) (by rfl) ⟨rfl, trivial⟩ (by rfl) (by rfl) (bsl1_agg (by rfl) (by rfl)) fun v4 h4 g4 x4 _ => ?_
        have ac4 := ac3.e x4
        try simp
        refine Tells.appNWE (g3.e x4) (w3.ext x4) g4.1 (by rfl) (by simp; omega) (by decide) (Nat.le_trans x3.next x4.next) fun v5 h5 g5 w5 x5 y5 z5 => ?_
        have xg5 : Ext [] g' h5 := y5 [] (x3.trans x4)
        have ac5 := ac.e xg5
        have kk5 := ac5.kill (id := h3.next) (by rw [xg5.n0, ← x3.n0]; exact n0_le h3) (by have := ac3.lt; omega)
        have kk4 := ac4.kill (id := h3.next) (by rw [x4.n0]; exact n0_le h3) (by have := ac3.lt; omega)
        obtain ⟨v6, f6, s6, b6⟩ := (sl.ext xg5).dropR (n := 2) rfl (lo := below s p) hb
        simp [k3, kk5, kk4, k6, f6]
        refine Tells.appNWE g5 w5 s6 (by rfl) (by simp; omega) (by decide) xg5.next fun v7 h7 g7 w7 x7 y7 z7 => ?_
        have xg7 : Ext [] g' h7 := y7 [] xg5
        try simp [k3]
        refine Tells.st1E (ac.e xg7) g7.1.cells g7.1.one (by simp) fun h8 o8 x8 => ?_
        simp [J_clock_New_3, k10, w]
        refine Tells.ok (hQ2 _ _ (.inl ⟨rfl, n - 1, by omega, i + 1, v7, by simp [k2], by simp [k3], by simp [k8], by simp [k9], by simp, by omega, (av.e xg7).ext x8 (by simpa using hvc), by simpa using o8, ?_, (w7.ext x8).back x.next, (x.trans xg7).then x8 (by simp; have := x1.next; omega)⟩))
        rw [hS, hins]
        exact g7.1.ext x8
      simp [J_clock_New_4, e5]
      by_cases hp : p < 0
      · simp [hp]
        exact stay _ (by simp [e2]) (by simp [e3]) (by simp [e8]) (by simp [e9]) (by simp [e10]) (by unfold ins; rw [if_pos (.inl hp)])
      · simp [hp, e6, e3, ac.1, sl.len]
        by_cases hb : below s p < s.length
        · obtain ⟨⟨q, n'⟩, hdb⟩ : ∃ d, s[below s p]? = some d := ⟨_, List.getElem?_eq_getElem hb⟩
          obtain ⟨b', p', B', k1, k2, k3, k4, k5⟩ := pair_at sl hdb
          simp [hb, e3, ac.1, e6, k1, k2, k4, e5]
          by_cases hq : q = p
          · subst hq
            simp
            exact stay _ (by simp [e2]) (by simp [e3]) (by simp [e8]) (by simp [e9]) (by simp [e10]) (by unfold ins; rw [if_pos (.inr (by rw [hdb]; rfl))])
          · simp [beq_eq_false_iff_ne.2 hq]
            exact come _ (by simp [e2]) (by simp [e3]) (by simp [e5]) (by simp [e6]) (by simp [e8]) (by simp [e9]) (by simp [e10]) (by unfold ins; rw [if_neg (by rw [hdb]; simp; exact ⟨by omega, hq⟩)])
        · simp [hb]
          exact come _ (by simp [e2]) (by simp [e3]) (by simp [e5]) (by simp [e6]) (by simp [e8]) (by simp [e9]) (by simp [e10]) (by unfold ins; rw [if_neg (by rw [List.getElem?_eq_none (by omega)]; simp; omega)])
    · simp at hc
      rw [List.take_of_length_le (by omega)] at sl
      exact Tells.ok (hQ2 _ _ (.inr ⟨by simp, rfl, by simp [t2], by simp [t3], av, v, ac, sl, wv, x⟩))
  · exact ⟨0, .nils, by simp, by simp, by simp, by simp, by simp, by omega, ov2, oc, by simpa [newS] using Sl.nil, fun b hb => by simp [AVal.blks] at hb, x12⟩
  · rintro ⟨ex, t⟩ g ⟨rfl, t2, t3, av, v, ac, sl, wv, x⟩
    simp only at t2 t3
    simp [J_clock_New_0, t3, ac.1, t2]
    refine Tells.stN av (by rfl) (by rfl) (by simp [sl.one]) (by rfl) fun h9 o9 x9 => ?_
    simp [t2, C_clock_New_0, o9.1]
    exact Tells.ok (hQ _ _ ⟨v, rfl, sl.ext x9, wv.ext x9, x.then x9 (by simp; omega)⟩)
theorem clock_New (hX : OnlyKnown X) {h : Heap} {u : AVal} {ps : List Int} (ou : Sl intR h u ps) (hl : ps.length < 2 ^ 29) :
    Tells (fun q => acallX Try.prog X q F_clock_New [u] h) fun a h' => ∃ v', a = .agg [v'] ∧ Sl pairR h' v' (newS ps) ∧ Ext [] h h' := by
  exact (clock_NewW hX ou hl).mono fun _ _ ⟨v', e, sl, _, x⟩ => ⟨v', e, sl, x⟩

end
end Go.Proofs.Ytbpbdigehfkjjaa
